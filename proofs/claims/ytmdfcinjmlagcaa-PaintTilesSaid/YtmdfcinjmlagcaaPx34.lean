/- Printed by printx.py (wip/tool) out of the translation: plain functions that tell what the program answers,and the proofs that the program comes to these answers,for all arguments of their kinds. Lean checks it. -/
import Derived.Test.YtmdfcinjmlagcaaShort
import Derived.Test.YtmdfcinjmlagcaaPx0
import Derived.Test.YtmdfcinjmlagcaaPx1
import Derived.Test.YtmdfcinjmlagcaaPx4
import Derived.Test.YtmdfcinjmlagcaaPx9
import Derived.Test.YtmdfcinjmlagcaaPx33
namespace Go.Proofs.Ytmdfcinjmlagcaa.P
open Go.RowKit Go.Proofs.YtmdfcinjmlagcaaW.PrintWords Go.Proofs.YtmdfcinjmlagcaaW.PrintLast Go.Proofs.YtmdfcinjmlagcaaW.PrintMore
attribute [local go_sem] max2_int min2_int max_two min_two max_three min_three max_four min_four max_five min_five max_six min_six   -- for this text's walks alone
set_option linter.unusedVariables false
set_option linter.unusedSimpArgs false

attribute [local go_sem high] eqA23
/-! ### celluloidlaw20_PaintTiles: function 7 -/
mutual
def celluloidlaw20_PaintTiles.j0 : Nat → Int → Int → Int → Int → Bool → Int → Int → Int → List (S23) → Option (Bool)
  | 0,_,_,_,_,_,_,_,_,_ => none
  | k + 1,x1,x2,x3,x4,x24,x628000,x628001,x628002,x628003 => if x24 = true then ((celluloidlaw20_awake.f k).bind fun t629 => (some t629)) else (if x628001 = 0 then (none) else (if x628002 = 0 then (none) else ((celluloidlaw20_at.f k x628000 x628001 x628002 x628003 64 (Int.tmod (wrap64 (x1)) x628001) (Int.tmod (wrap64 (x2)) x628002)).bind fun bt630 => (if 0 ≤ (wrap64 ((wrap64 ((Int.tmod (wrap64 (x2)) x628002) * x628001)) + (Int.tmod (wrap64 (x1)) x628001))) then (if (wrap64 ((wrap64 ((Int.tmod (wrap64 (x2)) x628002) * x628001)) + (Int.tmod (wrap64 (x1)) x628001))) < (x628003.length : Int) then (if (!(bt630.1 == ((rd_T23 x628003 (wrap64 ((wrap64 ((Int.tmod (wrap64 (x2)) x628002) * x628001)) + (Int.tmod (wrap64 (x1)) x628001)))).f0)) || (!(bt630.2.1 == ((rd_T23 x628003 (wrap64 ((wrap64 ((Int.tmod (wrap64 (x2)) x628002) * x628001)) + (Int.tmod (wrap64 (x1)) x628001)))).f1)) || (!(bt630.2.2.1 == ((rd_T23 x628003 (wrap64 ((wrap64 ((Int.tmod (wrap64 (x2)) x628002) * x628001)) + (Int.tmod (wrap64 (x1)) x628001)))).f2)) || (!(bt630.2.2.2 == ((rd_T23 x628003 (wrap64 ((wrap64 ((Int.tmod (wrap64 (x2)) x628002) * x628001)) + (Int.tmod (wrap64 (x1)) x628001)))).f3)))))) = true then (celluloidlaw20_PaintTiles.j1 k x3 x4 (Int.tmod (wrap64 (x1)) x628001) (Int.tmod (wrap64 (x2)) x628002) true x628000 x628001 x628002 x628003) else ((celluloidlaw20_at.f k x628000 x628001 x628002 x628003 65 (Int.tmod (wrap64 (x1)) x628001) (Int.tmod (wrap64 (x2)) x628002)).bind fun bt635 => (celluloidlaw20_PaintTiles.j1 k x3 x4 (Int.tmod (wrap64 (x1)) x628001) (Int.tmod (wrap64 (x2)) x628002) (!(bt635.1 == ((rd_T23 x628003 (wrap64 ((wrap64 ((Int.tmod (wrap64 (x2)) x628002) * x628001)) + (Int.tmod (wrap64 (x1)) x628001)))).f0)) || (!(bt635.2.1 == ((rd_T23 x628003 (wrap64 ((wrap64 ((Int.tmod (wrap64 (x2)) x628002) * x628001)) + (Int.tmod (wrap64 (x1)) x628001)))).f1)) || (!(bt635.2.2.1 == ((rd_T23 x628003 (wrap64 ((wrap64 ((Int.tmod (wrap64 (x2)) x628002) * x628001)) + (Int.tmod (wrap64 (x1)) x628001)))).f2)) || (!(bt635.2.2.2 == ((rd_T23 x628003 (wrap64 ((wrap64 ((Int.tmod (wrap64 (x2)) x628002) * x628001)) + (Int.tmod (wrap64 (x1)) x628001)))).f3)))))) x628000 x628001 x628002 x628003))) else (none)) else (none)))))
def celluloidlaw20_PaintTiles.j1 : Nat → Int → Int → Int → Int → Bool → Int → Int → Int → List (S23) → Option (Bool)
  | 0,_,_,_,_,_,_,_,_,_ => none
  | k + 1,x3,x4,x11,x12,x67,x628000,x628001,x628002,x628003 => if x67 = true then (some false) else (if 0 ≤ (wrap64 ((wrap64 ((mn (mx (wrap64 (x12 + (wrap64 ((wrap64 (x4)) * x628002)))) 0) (wrap64 (x628002 - 1))) * x628001)) + (mn (mx (wrap64 (x11 + (wrap64 ((wrap64 (x3)) * x628001)))) 0) (wrap64 (x628001 - 1))))) then (if (wrap64 ((wrap64 ((mn (mx (wrap64 (x12 + (wrap64 ((wrap64 (x4)) * x628002)))) 0) (wrap64 (x628002 - 1))) * x628001)) + (mn (mx (wrap64 (x11 + (wrap64 ((wrap64 (x3)) * x628001)))) 0) (wrap64 (x628001 - 1))))) < (x628003.length : Int) then ((celluloidlaw20_at.f k x628000 x628001 x628002 x628003 64 (wrap64 (x11 + (wrap64 ((wrap64 (x3)) * x628001)))) (wrap64 (x12 + (wrap64 ((wrap64 (x4)) * x628002))))).bind fun bt642 => (if 0 ≤ (wrap64 ((wrap64 (x12 * x628001)) + x11)) then (if (wrap64 ((wrap64 (x12 * x628001)) + x11)) < (x628003.length : Int) then (if (bt642.1 == ((rd_T23 x628003 (wrap64 ((wrap64 (x12 * x628001)) + x11))).f0) && (bt642.2.1 == ((rd_T23 x628003 (wrap64 ((wrap64 (x12 * x628001)) + x11))).f1) && (bt642.2.2.1 == ((rd_T23 x628003 (wrap64 ((wrap64 (x12 * x628001)) + x11))).f2) && (bt642.2.2.2 == ((rd_T23 x628003 (wrap64 ((wrap64 (x12 * x628001)) + x11))).f3))))) = true then ((celluloidlaw20_at.f k x628000 x628001 x628002 x628003 65 (wrap64 (x11 + (wrap64 ((wrap64 (x3)) * x628001)))) (wrap64 (x12 + (wrap64 ((wrap64 (x4)) * x628002))))).bind fun bt647 => (if (bt647.1 == ((rd_T23 x628003 (wrap64 ((wrap64 ((mn (mx (wrap64 (x12 + (wrap64 ((wrap64 (x4)) * x628002)))) 0) (wrap64 (x628002 - 1))) * x628001)) + (mn (mx (wrap64 (x11 + (wrap64 ((wrap64 (x3)) * x628001)))) 0) (wrap64 (x628001 - 1)))))).f0) && (bt647.2.1 == ((rd_T23 x628003 (wrap64 ((wrap64 ((mn (mx (wrap64 (x12 + (wrap64 ((wrap64 (x4)) * x628002)))) 0) (wrap64 (x628002 - 1))) * x628001)) + (mn (mx (wrap64 (x11 + (wrap64 ((wrap64 (x3)) * x628001)))) 0) (wrap64 (x628001 - 1)))))).f1) && (bt647.2.2.1 == ((rd_T23 x628003 (wrap64 ((wrap64 ((mn (mx (wrap64 (x12 + (wrap64 ((wrap64 (x4)) * x628002)))) 0) (wrap64 (x628002 - 1))) * x628001)) + (mn (mx (wrap64 (x11 + (wrap64 ((wrap64 (x3)) * x628001)))) 0) (wrap64 (x628001 - 1)))))).f2) && (bt647.2.2.2 == ((rd_T23 x628003 (wrap64 ((wrap64 ((mn (mx (wrap64 (x12 + (wrap64 ((wrap64 (x4)) * x628002)))) 0) (wrap64 (x628002 - 1))) * x628001)) + (mn (mx (wrap64 (x11 + (wrap64 ((wrap64 (x3)) * x628001)))) 0) (wrap64 (x628001 - 1)))))).f3))))) = true then ((celluloidlaw20_awake.f k).bind fun t651 => (some t651)) else (some false))) else (some false)) else (none)) else (none))) else (none)) else (none))
end
def celluloidlaw20_PaintTiles.f (k : Nat) (a0_0 : Int) (a0_1 : Int) (a0_2 : Int) (l0_3 : List (S23)) (a1 : Int) (a2 : Int) (a3 : Int) (a4 : Int) : Option (Bool):=if (l0_3.length : Int) > 500 then (celluloidlaw20_PaintTiles.j0 k a1 a2 a3 a4 true a0_0 a0_1 a0_2 l0_3) else ((pixel_Right.f k a0_0 a0_1 a0_2 l0_3).bind fun t628 => (celluloidlaw20_PaintTiles.j0 k a1 a2 a3 a4 (!t628) a0_0 a0_1 a0_2 l0_3))
theorem celluloidlaw20_PaintTiles.mono_l : ∀ k,(∀ y0 y1 y2 y3 y4 y5 y6 y7 y8,LeO (celluloidlaw20_PaintTiles.j0 k y0 y1 y2 y3 y4 y5 y6 y7 y8) (celluloidlaw20_PaintTiles.j0 (k + 1) y0 y1 y2 y3 y4 y5 y6 y7 y8)) ∧ (∀ y0 y1 y2 y3 y4 y5 y6 y7 y8,LeO (celluloidlaw20_PaintTiles.j1 k y0 y1 y2 y3 y4 y5 y6 y7 y8) (celluloidlaw20_PaintTiles.j1 (k + 1) y0 y1 y2 y3 y4 y5 y6 y7 y8))
  | 0 => ⟨fun _ _ _ _ _ _ _ _ _ r h => by simp [celluloidlaw20_PaintTiles.j0] at h,fun _ _ _ _ _ _ _ _ _ r h => by simp [celluloidlaw20_PaintTiles.j1] at h⟩
  | k + 1 => by
    obtain ⟨ih0,ih1⟩:=celluloidlaw20_PaintTiles.mono_l k;refine ⟨?_,?_⟩
    · intro y0 y1 y2 y3 y4 y5 y6 y7 y8
      unfold celluloidlaw20_PaintTiles.j0
      repeat' first
      | (with_reducible exact ih0 _ _ _ _ _ _ _ _ _)
      | (with_reducible exact ih1 _ _ _ _ _ _ _ _ _)
      | (with_reducible exact celluloidlaw20_at.mono _ _ _ _ _ _ _ _)
      | (with_reducible exact celluloidlaw20_awake.mono _)
      | (with_reducible exact pixel_Right.mono _ _ _ _ _)
      | (with_reducible exact LeO.refl _)
      | (with_reducible exact LeO.none _)
      | (with_reducible refine LeO.ite ?_ ?_)
      | (with_reducible refine LeO.bind ?_ (fun _ => ?_))
      | exact ih0 _ _ _ _ _ _ _ _ _
      | exact ih1 _ _ _ _ _ _ _ _ _
      | exact celluloidlaw20_at.mono _ _ _ _ _ _ _ _
      | exact celluloidlaw20_awake.mono _
      | exact pixel_Right.mono _ _ _ _ _
      | exact LeO.none _
      | refine LeO.ite ?_ ?_
      | refine LeO.bind ?_ (fun _ => ?_)
    · intro y0 y1 y2 y3 y4 y5 y6 y7 y8
      unfold celluloidlaw20_PaintTiles.j1
      repeat' first
      | (with_reducible exact ih0 _ _ _ _ _ _ _ _ _)
      | (with_reducible exact ih1 _ _ _ _ _ _ _ _ _)
      | (with_reducible exact celluloidlaw20_at.mono _ _ _ _ _ _ _ _)
      | (with_reducible exact celluloidlaw20_awake.mono _)
      | (with_reducible exact pixel_Right.mono _ _ _ _ _)
      | (with_reducible exact LeO.refl _)
      | (with_reducible exact LeO.none _)
      | (with_reducible refine LeO.ite ?_ ?_)
      | (with_reducible refine LeO.bind ?_ (fun _ => ?_))
      | exact ih0 _ _ _ _ _ _ _ _ _
      | exact ih1 _ _ _ _ _ _ _ _ _
      | exact celluloidlaw20_at.mono _ _ _ _ _ _ _ _
      | exact celluloidlaw20_awake.mono _
      | exact pixel_Right.mono _ _ _ _ _
      | exact LeO.none _
      | refine LeO.ite ?_ ?_
      | refine LeO.bind ?_ (fun _ => ?_)
theorem celluloidlaw20_PaintTiles.mono : ∀ a0 a1 a2 a3 a4 a5 a6 a7 k,LeO (celluloidlaw20_PaintTiles.f k a0 a1 a2 a3 a4 a5 a6 a7) (celluloidlaw20_PaintTiles.f (k + 1) a0 a1 a2 a3 a4 a5 a6 a7):=by
  intro a0 a1 a2 a3 a4 a5 a6 a7 k
  obtain ⟨ih0,ih1⟩:=celluloidlaw20_PaintTiles.mono_l k
  unfold celluloidlaw20_PaintTiles.f
  repeat' first
      | (with_reducible exact ih0 _ _ _ _ _ _ _ _ _)
      | (with_reducible exact ih1 _ _ _ _ _ _ _ _ _)
      | (with_reducible exact celluloidlaw20_at.mono _ _ _ _ _ _ _ _)
      | (with_reducible exact celluloidlaw20_awake.mono _)
      | (with_reducible exact pixel_Right.mono _ _ _ _ _)
      | (with_reducible exact LeO.refl _)
      | (with_reducible exact LeO.none _)
      | (with_reducible refine LeO.ite ?_ ?_)
      | (with_reducible refine LeO.bind ?_ (fun _ => ?_))
      | exact ih0 _ _ _ _ _ _ _ _ _
      | exact ih1 _ _ _ _ _ _ _ _ _
      | exact celluloidlaw20_at.mono _ _ _ _ _ _ _ _
      | exact celluloidlaw20_awake.mono _
      | exact pixel_Right.mono _ _ _ _ _
      | exact LeO.none _
      | refine LeO.ite ?_ ?_
      | refine LeO.bind ?_ (fun _ => ?_)
def celluloidlaw20_PaintTiles.T3 : Bool × List (List Nat × List Nat):=(true,[([],[]),([0],[0]),([],[]),([2],[2]),([1,3],[1,3]),([],[]),([5],[5]),([],[]),([7],[7]),([6,8],[6,8]),([4,0,1,2,3,4],[4]),([9,10,0,1,2,3,4,5,6,7,8,9,10],[9])])
def celluloidlaw20_PaintTiles.B3 : List Nat:=[0,1,0,4,15,0,32,0,128,480,31,2047]
theorem celluloidlaw20_PaintTiles.tab3 : rtab .any (opsOf Try.f7 3) = celluloidlaw20_PaintTiles.T3:=by kernel_rfl
theorem celluloidlaw20_PaintTiles.bits3 : waitsOk celluloidlaw20_PaintTiles.T3.2 celluloidlaw20_PaintTiles.B3 = true:=by kernel_rfl
def celluloidlaw20_PaintTiles.T4 : Bool × List (List Nat × List Nat):=(true,[([],[]),([],[]),([],[]),([0,1,2],[0,1,2]),([],[]),([4],[4]),([],[]),([],[]),([7],[7]),([6,8],[6,8]),([],[]),([9,10],[9,10]),([5,11],[5,11]),([12],[12]),([3,13],[3,13]),([14,3],[14]),([15],[15]),([15],[15]),([15],[15]),([16,17,18,15,15],[15,16,17,18]),([15],[15]),([20,15],[15,20]),([15],[15]),([15],[15]),([23,15],[15,23]),([22,24,15],[15,22,24]),([15],[15]),([25,26,15],[15,25,26]),([21,27,15],[15,21,27]),([28,15],[15,28]),([19,29,15],[15,19,29]),([15,30],[15,30])])
def celluloidlaw20_PaintTiles.B4 : List Nat:=[0,0,0,7,0,16,0,0,128,448,0,1984,4080,8176,16383,32767,65535,65535,65535,524287,65535,1114111,65535,65535,8454143,29425663,65535,130088959,267452415,535887871,1073741823,2147483647]
theorem celluloidlaw20_PaintTiles.tab4 : rtab .any (opsOf Try.f7 4) = celluloidlaw20_PaintTiles.T4:=by kernel_rfl
theorem celluloidlaw20_PaintTiles.bits4 : waitsOk celluloidlaw20_PaintTiles.T4.2 celluloidlaw20_PaintTiles.B4 = true:=by kernel_rfl
def celluloidlaw20_PaintTiles.T6 : Bool × List (List Nat × List Nat):=(true,[([],[]),([],[]),([1],[1]),([],[]),([3],[3]),([2,4],[2,4]),([0,5],[0,5]),([],[]),([],[]),([8],[8]),([],[]),([10],[10]),([9,11],[9,11]),([7,12],[7,12]),([6,0,1,2,3,4,5,6],[6]),([13,14,0,1,2,3,4,5,6,7,8,9,10,11,12,13,14],[13])])
def celluloidlaw20_PaintTiles.B6 : List Nat:=[0,0,2,0,8,30,63,0,0,256,0,1024,3840,8064,127,32767]
theorem celluloidlaw20_PaintTiles.tab6 : rtab .any (opsOf Try.f7 6) = celluloidlaw20_PaintTiles.T6:=by kernel_rfl
theorem celluloidlaw20_PaintTiles.bits6 : waitsOk celluloidlaw20_PaintTiles.T6.2 celluloidlaw20_PaintTiles.B6 = true:=by kernel_rfl
def celluloidlaw20_PaintTiles.T8 : Bool × List (List Nat × List Nat):=(true,[([],[]),([],[]),([],[]),([0,1,2],[0,1,2]),([],[]),([4],[4]),([],[]),([],[]),([7],[7]),([6,8],[6,8]),([],[]),([9,10],[9,10]),([5,11],[5,11]),([12],[12]),([3,13],[3,13]),([14,3],[14]),([15],[15]),([15],[15]),([15],[15]),([16,17,18,15,15],[15,16,17,18]),([15],[15]),([19,20,15],[15,19,20]),([15,21],[15,21]),([22,19],[22]),([23,23],[23]),([23,24],[23,24]),([25,24,0,1,2,3,4,5,6,7,8,9,10,11,12,13,14,15,16,17,18,19,20,21,22,23,24,25],[25])])
def celluloidlaw20_PaintTiles.B8 : List Nat:=[0,0,0,7,0,16,0,0,128,448,0,1984,4080,8176,16383,32767,65535,65535,65535,524287,65535,2097151,4194303,8388607,16777215,33554431,67108863]
theorem celluloidlaw20_PaintTiles.tab8 : rtab .any (opsOf Try.f7 8) = celluloidlaw20_PaintTiles.T8:=by kernel_rfl
theorem celluloidlaw20_PaintTiles.bits8 : waitsOk celluloidlaw20_PaintTiles.T8.2 celluloidlaw20_PaintTiles.B8 = true:=by kernel_rfl
set_option maxHeartbeats 8000000 in
set_option maxRecDepth 100000 in
theorem celluloidlaw20_PaintTiles.calls (k : Nat) (a0_0 : Int) (a0_1 : Int) (a0_2 : Int) (A0_3 : Option Addr) (c0_3 : Nat) (l0_3 : List (S23)) (a1 : Int) (a2 : Int) (a3 : Int) (a4 : Int) (r : Bool) (w : World) (hr0_3 : Kd.C k23 w A0_3 l0_3.length l0_3) (hc0_3 : l0_3.length ≤ c0_3) (h : celluloidlaw20_PaintTiles.f k a0_0 a0_1 a0_2 l0_3 a1 a2 a3 a4 = some r) :
    Calls Try.prog 7 #[.agg #[.int .i64 a0_0,.int .i64 a0_1,.int .i64 a0_2,.slice A0_3 l0_3.length c0_3],.int .u8 a1,.int .u8 a2,.int .i8 a3,.int .i8 a4] w fun e w' => e = .returned (.bool r) ∧ Below w.heap.size w w':=by
  have hu43:=Try.underlying43;have hu23:=Try.underlying23;have HR0_3:=am hr0_3;have HC0_3:=am hc0_3;clear hr0_3 hc0_3;have HB:=am (Below.refl w.heap.size w);have H : (if (l0_3.length : Int) > 500 then (celluloidlaw20_PaintTiles.j0 k a1 a2 a3 a4 true a0_0 a0_1 a0_2 l0_3) else ((pixel_Right.f k a0_0 a0_1 a0_2 l0_3).bind fun t628 => (celluloidlaw20_PaintTiles.j0 k a1 a2 a3 a4 (!t628) a0_0 a0_1 a0_2 l0_3))) = some r:=h;clear h;have HC6:=am H;clear H
  go_enter Try.func7,Try.ntmps7
  go_upto_region 1 with (first|((with_reducible refine gate_dst (N:=5) rfl ?_);refine box_event ?hg (N:=5) ?hd (cs:=#[.int .i64 a0_0,.int .i64 a0_1,.int .i64 a0_2,.slice A0_3 l0_3.length c0_3]) (t:=43) ?hr ?_;(case hd => rfl);(case hg => rfl);(case hr => first|(go_simp;done)|(go_simp;rfl));intro gb627 hg w7 hbox hb;have n0_:=am (ss (by repeat (first|(with_reducible first|exact HB.out|apply sa|apply sn|apply sd)|exact HB.out)) hb);have n1_:=am (hbox);have n2_:=am ((by rw [hg];exact (sz (by repeat (first|(with_reducible first|exact HB.out|apply sa|apply sn|apply sd)|exact HB.out))) : w.heap.size ≤ gb627));have n3_:=am ((by rw [hg];exact (sz (by repeat (first|(with_reducible first|exact HB.out|apply sa|apply sn|apply sd)|exact HB.out))) : w.heap.size ≤ gb627));clear HB;have HB:=n0_;have BK627:=n1_;have GW627:=n2_;have GE627:=n3_;clear n0_ n1_ n2_ n3_;clear hb hbox hg))
  (try simp only [Act.put,q1,q2,q3])
  go_cut [24] (fun v24 wc => ∃ (kq : Nat) (x24_5 : Bool),v24 = .bool x24_5 ∧ Aside0 (celluloidlaw20_PaintTiles.j0 kq a1 a2 a3 a4 x24_5 a0_0 a0_1 a0_2 l0_3 = some r) ∧ Aside0 (kq ≤ k) ∧ Aside0 (wc.heap[gb627]? = some (.cells #[.int .i64 a0_0,.int .i64 a0_1,.int .i64 a0_2,(.slice A0_3 l0_3.length c0_3)] 43 (0,0))) ∧ Aside0 (Below w.heap.size w wc))
  case first =>
    have H:=HC6.out;clear HC6
    by_cases c8 : (l0_3.length : Int) > 500
    · rw [if_pos c8] at H
      have c8b0 : decide (500 < (l0_3.length : Int)) = true:=decide_eq_true c8;have c8b1 : decide (500 < l0_3.length) = true:=decide_eq_true (by omega);clear c8
      (first|rw [c8b0]|(simp only [i64_w,i32_w];rw [c8b0])|skip)
      have H':=am H;clear H;obtain ⟨hcz9_0,hcz9_1,hcz9_2,hcz9_3⟩:=cq4 BK627.out;obtain ⟨hfz9_0,hfz9_1,hfz9_2,hfz9_3⟩:=fq4 BK627.out
      go_wp2
      go_meet
      case rel => exact ⟨_,(true),(by first|rfl|(simp;done)|(simp [*];done)),H',⟨by first|omega|exact Nat.le_refl _⟩,⟨by exact BK627.out⟩,⟨by repeat (first|(with_reducible first|exact HB.out|apply sa|apply sn|apply sd|refine sx ?_ GE627.out)|exact HB.out)⟩⟩
    · rw [if_neg c8] at H
      have c8b0 : decide (500 < (l0_3.length : Int)) = false:=decide_eq_false c8;have c8b1 : decide (500 < l0_3.length) = false:=decide_eq_false (by omega);clear c8
      (first|rw [c8b0]|(simp only [i64_w,i32_w];rw [c8b0])|skip)
      replace H:=Option.bind_eq_some_iff.mp H;obtain ⟨t628,A100,H⟩:=H;replace H : (celluloidlaw20_PaintTiles.j0 k a1 a2 a3 a4 (!t628) a0_0 a0_1 a0_2 l0_3) = some r:=H;have A10:=am A100;clear A100;have H':=am H;clear H;obtain ⟨hcz11_0,hcz11_1,hcz11_2,hcz11_3⟩:=cq4 BK627.out;obtain ⟨hfz11_0,hfz11_1,hfz11_2,hfz11_3⟩:=fq4 BK627.out
      go_wp2_with (first|(go_at_call 22;(with_reducible refine (pixel_Right.calls k a0_0 a0_1 a0_2 _ _ l0_3 t628 _ ?side1 ?side2 A10.out).mono ?_);(case side1 => repeat (first|exact (Kd.C_below HR0_3.out HB.out)|(with_reducible refine Kd.C_alloc ?_ _)|(with_reducible refine Kd.C_drewN ?_ _)|(with_reducible refine Kd.C_drew ?_)));(case side2 => exact HC0_3.out);rintro e w12 ⟨rfl,hb⟩;replace BK627:=am (bw (by exact BK627.out) hb);replace HB:=am (ss (by repeat (first|(with_reducible first|exact HB.out|apply sa|apply sn|apply sd|refine sx ?_ GE627.out)|exact HB.out)) hb);(try clear hb);(try clear hb2);(try clear hk);(try clear hi)))
      go_meet
      case rel => exact ⟨_,(!t628),(by first|rfl|(simp;done)|(simp [*];done)),H',⟨by first|omega|exact Nat.le_refl _⟩,⟨by exact BK627.out⟩,⟨by repeat (first|(with_reducible first|exact HB.out|apply sa|apply sn|apply sd|refine sx ?_ GE627.out)|exact HB.out)⟩⟩
  case rest =>
    clear HC6
    (try clear p2);(try clear c7);(try clear c8);(try clear c8b0);(try clear c8b1);(try clear hcz11_0 hcz11_1 hcz11_2 hcz11_3);(try clear hcz9_0 hcz9_1 hcz9_2 hcz9_3);(try clear hfz11_0 hfz11_1 hfz11_2 hfz11_3);(try clear hfz9_0 hfz9_1 hfz9_2 hfz9_3)
    obtain ⟨kq,x24_5,rfl,HA,HJ5,BK627,HB⟩:=hcut
    cases kq with
    | zero => exact absurd HA.out (by simp [celluloidlaw20_PaintTiles.j0])
    | succ kj5 =>
      have H:=HA.out;clear HA;simp only [celluloidlaw20_PaintTiles.j0] at H
      by_cases c13 : x24_5 = true
      · subst c13
        have H1 : ((celluloidlaw20_awake.f kj5).bind fun t629 => (some t629)) = some r:=by rw [if_pos rfl] at H;exact H
        clear H;have H:=H1;clear H1;replace H:=Option.bind_eq_some_iff.mp H;obtain ⟨t629,A140,H⟩:=H;replace H : (some t629) = some r:=H;have A14:=am A140;clear A140;obtain rfl:=Option.some.inj H
        go_wp2_with (first|((with_reducible refine gate_callee (f:=12) rfl ?_);refine goesL_ (some 25) rfl rfl Try.func12 (by kernel_rfl) rfl #[] rfl (by (try simp only [List.map_toArray,List.map_cons,List.map_nil]);first|done|rfl|(simp only [List.length_drop,List.length_take];rfl)) ?_;(with_reducible refine (celluloidlaw20_awake.calls kj5  t629 _ A14.out).mono ?_);rintro e w15 ⟨rfl,hb⟩;refine ⟨_,rfl,?_⟩;replace BK627:=am (bw (by exact BK627.out) hb);replace HB:=am (ss (by repeat (first|(with_reducible first|exact HB.out|apply sa|apply sn|apply sd|refine sx ?_ GE627.out)|exact HB.out)) hb);(try clear hb);(try clear hb2);(try clear hk);(try clear hi)))
        go_ret
        exact ⟨by first|rfl|(simp [errW_none,errW_some] <;> rfl)|(simp [*,errW_none,errW_some] <;> rfl),by repeat (first|(with_reducible first|exact HB.out|apply sa|apply sn|apply sd|refine sx ?_ GE627.out)|exact HB.out)⟩
      · replace c13:=Bool.eq_false_iff.mpr c13
        subst c13
        have H1 : (if a0_1 = 0 then (none) else (if a0_2 = 0 then (none) else ((celluloidlaw20_at.f kj5 a0_0 a0_1 a0_2 l0_3 64 (Int.tmod (wrap64 (a1)) a0_1) (Int.tmod (wrap64 (a2)) a0_2)).bind fun bt630 => (if 0 ≤ (wrap64 ((wrap64 ((Int.tmod (wrap64 (a2)) a0_2) * a0_1)) + (Int.tmod (wrap64 (a1)) a0_1))) then (if (wrap64 ((wrap64 ((Int.tmod (wrap64 (a2)) a0_2) * a0_1)) + (Int.tmod (wrap64 (a1)) a0_1))) < (l0_3.length : Int) then (if (!(bt630.1 == ((rd_T23 l0_3 (wrap64 ((wrap64 ((Int.tmod (wrap64 (a2)) a0_2) * a0_1)) + (Int.tmod (wrap64 (a1)) a0_1)))).f0)) || (!(bt630.2.1 == ((rd_T23 l0_3 (wrap64 ((wrap64 ((Int.tmod (wrap64 (a2)) a0_2) * a0_1)) + (Int.tmod (wrap64 (a1)) a0_1)))).f1)) || (!(bt630.2.2.1 == ((rd_T23 l0_3 (wrap64 ((wrap64 ((Int.tmod (wrap64 (a2)) a0_2) * a0_1)) + (Int.tmod (wrap64 (a1)) a0_1)))).f2)) || (!(bt630.2.2.2 == ((rd_T23 l0_3 (wrap64 ((wrap64 ((Int.tmod (wrap64 (a2)) a0_2) * a0_1)) + (Int.tmod (wrap64 (a1)) a0_1)))).f3)))))) = true then (celluloidlaw20_PaintTiles.j1 kj5 a3 a4 (Int.tmod (wrap64 (a1)) a0_1) (Int.tmod (wrap64 (a2)) a0_2) true a0_0 a0_1 a0_2 l0_3) else ((celluloidlaw20_at.f kj5 a0_0 a0_1 a0_2 l0_3 65 (Int.tmod (wrap64 (a1)) a0_1) (Int.tmod (wrap64 (a2)) a0_2)).bind fun bt635 => (celluloidlaw20_PaintTiles.j1 kj5 a3 a4 (Int.tmod (wrap64 (a1)) a0_1) (Int.tmod (wrap64 (a2)) a0_2) (!(bt635.1 == ((rd_T23 l0_3 (wrap64 ((wrap64 ((Int.tmod (wrap64 (a2)) a0_2) * a0_1)) + (Int.tmod (wrap64 (a1)) a0_1)))).f0)) || (!(bt635.2.1 == ((rd_T23 l0_3 (wrap64 ((wrap64 ((Int.tmod (wrap64 (a2)) a0_2) * a0_1)) + (Int.tmod (wrap64 (a1)) a0_1)))).f1)) || (!(bt635.2.2.1 == ((rd_T23 l0_3 (wrap64 ((wrap64 ((Int.tmod (wrap64 (a2)) a0_2) * a0_1)) + (Int.tmod (wrap64 (a1)) a0_1)))).f2)) || (!(bt635.2.2.2 == ((rd_T23 l0_3 (wrap64 ((wrap64 ((Int.tmod (wrap64 (a2)) a0_2) * a0_1)) + (Int.tmod (wrap64 (a1)) a0_1)))).f3)))))) a0_0 a0_1 a0_2 l0_3))) else (none)) else (none))))) = some r:=by rw [if_neg (show ¬ (false = true) by decide)] at H;exact H
        clear H;have H:=H1;clear H1
        by_cases c16 : a0_1 = 0
        · rw [if_pos c16] at H
          exact absurd H (by simp)
        · rw [if_neg c16] at H
          have c16b0 : (a0_1 == 0) = false:=beq_eq_false_iff_ne.mpr c16;have c16b1 : (a0_1 != 0) = true:=bne_iff_ne.mpr c16
          by_cases c17 : a0_2 = 0
          · rw [if_pos c17] at H
            exact absurd H (by simp)
          · rw [if_neg c17] at H
            have c17b0 : (a0_2 == 0) = false:=beq_eq_false_iff_ne.mpr c17;have c17b1 : (a0_2 != 0) = true:=bne_iff_ne.mpr c17;have HC18:=am H;clear H
            try go_wp2
            replace BK627:=am (bd BK627.out);replace HB:=am (sd HB.out);refine start_ (n:=12) (S:=fun w' => w'.cell? ⟨gb627,0,none⟩ = some (.int .i64 a0_0) ∧ w'.cell? ⟨gb627,1,none⟩ = some (.int .i64 a0_1) ∧ w'.cell? ⟨gb627,2,none⟩ = some (.int .i64 a0_2) ∧ w'.cell? ⟨gb627,3,none⟩ = some (.slice A0_3 l0_3.length c0_3)) (ds:=[]) #[false,false,false,false,false,false,false,false,false,false,false,false] (by kernel_rfl) rfl rfl ⟨(bc BK627.out 0).trans rfl,(bc BK627.out 1).trans rfl,(bc BK627.out 2).trans rfl,(bc BK627.out 3).trans rfl⟩ (fun hHeld => ?_);refine with_tabW celluloidlaw20_PaintTiles.tab3 celluloidlaw20_PaintTiles.bits3 (fun HT_ HW_ => ?_);generalize wc.drew = w19 at BK627 HB hHeld ⊢;refine pure_ (i:=0) (N:=some 26) (v:=?_) (a':=?_) #[true,false,false,false,false,false,false,false,false,false,false,false] rfl rfl (any_of HT_.out (by kernel_rfl)) (fun _ _ _ h => h) (Or.inl ⟨by rfl,?_⟩) ?_ ?_
            rotate_left
            · intro w'
              go_simp
              with_reducible rfl
            rotate_left
            · simp only [Act.put,q1,q2,q3,i64_w,i32_w]
              rfl
            refine pure_ (i:=1) (N:=some 27) (v:=?_) (a':=?_) #[true,true,false,false,false,false,false,false,false,false,false,false] rfl rfl (any_of HT_.out (by kernel_rfl)) (fun _ _ _ h => h) (Or.inl ⟨by rfl,?_⟩) ?_ ?_
            rotate_left
            · intro w'
              go_simp
              with_reducible rfl
            rotate_left
            · simp only [Act.put,q1,q2,q3,i64_w,i32_w]
              rfl
            refine pure_ (i:=2) (N:=some 28) (v:=?_) (a':=?_) #[true,true,true,false,false,false,false,false,false,false,false,false] rfl rfl (any_of HT_.out (by kernel_rfl)) (fun _ _ _ h => h) (Or.inl ⟨by rfl,?_⟩) ?_ ?_
            rotate_left
            · intro w'
              go_simp
              with_reducible rfl
            rotate_left
            · simp only [Act.put,q1,q2,q3,i64_w,i32_w]
              rfl
            refine pure_ (i:=5) (N:=some 31) (v:=?_) (a':=?_) #[true,true,true,false,false,true,false,false,false,false,false,false] rfl rfl (any_of HT_.out (by kernel_rfl)) (fun _ _ _ h => h) (Or.inl ⟨by rfl,?_⟩) ?_ ?_
            rotate_left
            · intro w'
              go_simp
              with_reducible rfl
            rotate_left
            · simp only [Act.put,q1,q2,q3,i64_w,i32_w]
              rfl
            refine pure_ (i:=6) (N:=some 32) (v:=?_) (a':=?_) #[true,true,true,false,false,true,true,false,false,false,false,false] rfl rfl (any_of HT_.out (by kernel_rfl)) (fun _ _ _ h => h) (Or.inl ⟨by rfl,?_⟩) ?_ ?_
            rotate_left
            · intro w'
              go_simp
              with_reducible rfl
            rotate_left
            · simp only [Act.put,q1,q2,q3,i64_w,i32_w]
              rfl
            refine pure_ (i:=7) (N:=some 33) (v:=?_) (a':=?_) #[true,true,true,false,false,true,true,true,false,false,false,false] rfl rfl (any_of HT_.out (by kernel_rfl)) (fun _ _ _ h => h) (Or.inl ⟨by rfl,?_⟩) ?_ ?_
            rotate_left
            · intro w'
              go_simp
              with_reducible rfl
            rotate_left
            · simp only [Act.put,q1,q2,q3,i64_w,i32_w]
              rfl
            refine take_ (i:=3) (N:=some 29) (v:=?_) (a':=?_) #[true,true,true,true,false,true,true,true,false,false,false,false] rfl rfl (take_ofW HT_.out HW_.out (by kernel_rfl)) (fun _ _ _ h => h) (Or.inl ⟨by rfl,?_⟩) hHeld ?_ ?_
            rotate_left
            · rintro w' ⟨s0,s1,s2,s3⟩
              go_simp
              with_reducible rfl
            rotate_left
            · simp only [Act.put,q1,q2,q3,i64_w,i32_w]
              rfl
            refine pure_ (i:=4) (N:=some 30) (v:=?_) (a':=?_) #[true,true,true,true,true,true,true,true,false,false,false,false] rfl rfl (any_of HT_.out (by kernel_rfl)) (fun _ _ _ h => h) (Or.inl ⟨by rfl,?_⟩) ?_ ?_
            rotate_left
            · intro w'
              go_simp
              with_reducible rfl
            rotate_left
            · simp only [Act.put,q1,q2,q3,i64_w,i32_w]
              rfl
            refine pure_ (i:=10) (N:=some 11) (v:=?_) (a':=?_) #[true,true,true,true,true,true,true,true,false,false,true,false] rfl rfl (any_of HT_.out (by kernel_rfl)) (fun _ _ _ h => h) (Or.inl ⟨by rfl,?_⟩) ?_ ?_
            rotate_left
            · intro w'
              go_simp
              with_reducible rfl
            rotate_left
            · simp only [Act.put,q1,q2,q3,i64_w,i32_w]
              rfl
            refine take_ (i:=8) (N:=some 34) (v:=?_) (a':=?_) #[true,true,true,true,true,true,true,true,true,false,true,false] rfl rfl (take_ofW HT_.out HW_.out (by kernel_rfl)) (fun _ _ _ h => h) (Or.inl ⟨by rfl,?_⟩) hHeld ?_ ?_
            rotate_left
            · rintro w' ⟨s0,s1,s2,s3⟩
              go_simp
              with_reducible rfl
            rotate_left
            · simp only [Act.put,q1,q2,q3,i64_w,i32_w]
              rfl
            refine pure_ (i:=9) (N:=some 35) (v:=?_) (a':=?_) #[true,true,true,true,true,true,true,true,true,true,true,false] rfl rfl (any_of HT_.out (by kernel_rfl)) (fun _ _ _ h => h) (Or.inl ⟨by rfl,?_⟩) ?_ ?_
            rotate_left
            · intro w'
              go_simp
              with_reducible rfl
            rotate_left
            · simp only [Act.put,q1,q2,q3,i64_w,i32_w]
              rfl
            refine pure_ (i:=11) (N:=some 12) (v:=?_) (a':=?_) #[true,true,true,true,true,true,true,true,true,true,true,true] rfl rfl (any_of HT_.out (by kernel_rfl)) (fun _ _ _ h => h) (Or.inl ⟨by rfl,?_⟩) ?_ ?_
            rotate_left
            · intro w'
              go_simp
              with_reducible rfl
            rotate_left
            · simp only [Act.put,q1,q2,q3,i64_w,i32_w]
              rfl
            refine done_ (done_of HT_.out (by kernel_rfl)) ?_
            go_upto_region 4 with (fail)
            go_cut [67] (fun v67 wc => ∃ (kq : Nat) (x67_17 : Bool),v67 = .bool x67_17 ∧ Aside0 (celluloidlaw20_PaintTiles.j1 kq a3 a4 (Int.tmod (wrap64 (a1)) a0_1) (Int.tmod (wrap64 (a2)) a0_2) x67_17 a0_0 a0_1 a0_2 l0_3 = some r) ∧ Aside0 (kq ≤ kj5) ∧ Aside0 (wc.heap[gb627]? = some (.cells #[.int .i64 a0_0,.int .i64 a0_1,.int .i64 a0_2,(.slice A0_3 l0_3.length c0_3)] 43 (0,0))) ∧ Aside0 (Below w.heap.size w wc))
            case first =>
              have H:=HC18.out;clear HC18;replace H:=Option.bind_eq_some_iff.mp H;obtain ⟨⟨t630,t631,t632,t633⟩,A200,H⟩:=H;replace H : (if 0 ≤ (wrap64 ((wrap64 ((Int.tmod (wrap64 (a2)) a0_2) * a0_1)) + (Int.tmod (wrap64 (a1)) a0_1))) then (if (wrap64 ((wrap64 ((Int.tmod (wrap64 (a2)) a0_2) * a0_1)) + (Int.tmod (wrap64 (a1)) a0_1))) < (l0_3.length : Int) then (if (!(t630 == ((rd_T23 l0_3 (wrap64 ((wrap64 ((Int.tmod (wrap64 (a2)) a0_2) * a0_1)) + (Int.tmod (wrap64 (a1)) a0_1)))).f0)) || (!(t631 == ((rd_T23 l0_3 (wrap64 ((wrap64 ((Int.tmod (wrap64 (a2)) a0_2) * a0_1)) + (Int.tmod (wrap64 (a1)) a0_1)))).f1)) || (!(t632 == ((rd_T23 l0_3 (wrap64 ((wrap64 ((Int.tmod (wrap64 (a2)) a0_2) * a0_1)) + (Int.tmod (wrap64 (a1)) a0_1)))).f2)) || (!(t633 == ((rd_T23 l0_3 (wrap64 ((wrap64 ((Int.tmod (wrap64 (a2)) a0_2) * a0_1)) + (Int.tmod (wrap64 (a1)) a0_1)))).f3)))))) = true then (celluloidlaw20_PaintTiles.j1 kj5 a3 a4 (Int.tmod (wrap64 (a1)) a0_1) (Int.tmod (wrap64 (a2)) a0_2) true a0_0 a0_1 a0_2 l0_3) else ((celluloidlaw20_at.f kj5 a0_0 a0_1 a0_2 l0_3 65 (Int.tmod (wrap64 (a1)) a0_1) (Int.tmod (wrap64 (a2)) a0_2)).bind fun bt635 => (celluloidlaw20_PaintTiles.j1 kj5 a3 a4 (Int.tmod (wrap64 (a1)) a0_1) (Int.tmod (wrap64 (a2)) a0_2) (!(bt635.1 == ((rd_T23 l0_3 (wrap64 ((wrap64 ((Int.tmod (wrap64 (a2)) a0_2) * a0_1)) + (Int.tmod (wrap64 (a1)) a0_1)))).f0)) || (!(bt635.2.1 == ((rd_T23 l0_3 (wrap64 ((wrap64 ((Int.tmod (wrap64 (a2)) a0_2) * a0_1)) + (Int.tmod (wrap64 (a1)) a0_1)))).f1)) || (!(bt635.2.2.1 == ((rd_T23 l0_3 (wrap64 ((wrap64 ((Int.tmod (wrap64 (a2)) a0_2) * a0_1)) + (Int.tmod (wrap64 (a1)) a0_1)))).f2)) || (!(bt635.2.2.2 == ((rd_T23 l0_3 (wrap64 ((wrap64 ((Int.tmod (wrap64 (a2)) a0_2) * a0_1)) + (Int.tmod (wrap64 (a1)) a0_1)))).f3)))))) a0_0 a0_1 a0_2 l0_3))) else (none)) else (none)) = some r:=H;have A20:=am A200;clear A200;obtain ⟨ji21,hji21⟩ : ∃ j_ : Int,(wrap64 ((wrap64 ((Int.tmod (wrap64 (a2)) a0_2) * a0_1)) + (Int.tmod (wrap64 (a1)) a0_1))) = j_:=⟨_,rfl⟩
              replace H : (if 0 ≤ (ji21) then (if (ji21) < (l0_3.length : Int) then (if (!(t630 == ((rd_T23 l0_3 (ji21)).f0)) || (!(t631 == ((rd_T23 l0_3 (ji21)).f1)) || (!(t632 == ((rd_T23 l0_3 (ji21)).f2)) || (!(t633 == ((rd_T23 l0_3 (ji21)).f3)))))) = true then (celluloidlaw20_PaintTiles.j1 kj5 a3 a4 (Int.tmod (wrap64 (a1)) a0_1) (Int.tmod (wrap64 (a2)) a0_2) true a0_0 a0_1 a0_2 l0_3) else ((celluloidlaw20_at.f kj5 a0_0 a0_1 a0_2 l0_3 65 (Int.tmod (wrap64 (a1)) a0_1) (Int.tmod (wrap64 (a2)) a0_2)).bind fun bt635 => (celluloidlaw20_PaintTiles.j1 kj5 a3 a4 (Int.tmod (wrap64 (a1)) a0_1) (Int.tmod (wrap64 (a2)) a0_2) (!(bt635.1 == ((rd_T23 l0_3 (ji21)).f0)) || (!(bt635.2.1 == ((rd_T23 l0_3 (ji21)).f1)) || (!(bt635.2.2.1 == ((rd_T23 l0_3 (ji21)).f2)) || (!(bt635.2.2.2 == ((rd_T23 l0_3 (ji21)).f3)))))) a0_0 a0_1 a0_2 l0_3))) else (none)) else (none)) = some r:=by first|(rw [hji21] at H;exact H)|(simp only [hji21] at H ⊢;exact H)
              (try rw [hji21] at A20);have hji21w : (IntKind.i64.wrap ((wrap64 ((Int.tmod (wrap64 (a2)) a0_2) * a0_1)) + (Int.tmod (wrap64 (a1)) a0_1))) = ji21:=(i64_w _).trans hji21
              by_cases c22 : 0 ≤ (ji21)
              · rw [if_pos c22] at H
                have c22b0 : decide (0 ≤ (ji21)) = true:=decide_eq_true c22;clear c22
                (first|rw [c22b0]|(simp only [i64_w,i32_w];rw [c22b0])|skip)
                by_cases c23 : (ji21) < (l0_3.length : Int)
                · rw [if_pos c23] at H
                  have c23b0 : decide ((ji21) < (l0_3.length : Int)) = true:=decide_eq_true c23;clear c23
                  by_cases c24 : (!(t630 == ((rd_T23 l0_3 (ji21)).f0)) || (!(t631 == ((rd_T23 l0_3 (ji21)).f1)) || (!(t632 == ((rd_T23 l0_3 (ji21)).f2)) || (!(t633 == ((rd_T23 l0_3 (ji21)).f3)))))) = true
                  · rw [if_pos c24] at H
                    have c24b0 : (!(t630 == ((rd_T23 l0_3 (ji21)).f0)) || (!(t631 == ((rd_T23 l0_3 (ji21)).f1)) || (!(t632 == ((rd_T23 l0_3 (ji21)).f2)) || (!(t633 == ((rd_T23 l0_3 (ji21)).f3)))))) = true:=c24;clear c24;have H':=am H;clear H
                    try go_wp2
                    replace BK627:=am (bd BK627.out);replace HB:=am (sd HB.out);have p634 : 0 ≤ ((ji21) : Int):=of_decide_eq_true (by first|(with_reducible assumption)|assumption);have q634 : (ji21) < (l0_3.length : Int):=of_decide_eq_true (by first|(with_reducible assumption)|assumption);obtain ⟨ad634,e634,hx634_0,hx634_1,hx634_2,hx634_3⟩:=at_T23 HR0_3.out (ji21) p634 q634;have hw634_3:=hx634_3;have hw634_2:=hx634_2;have hw634_1:=hx634_1;have hw634_0:=hx634_0
                    cases e634
                    replace hx634_0:=(HB.out.cell (World.block_lt_of_cell? w _ hx634_0)).trans hx634_0;replace hx634_1:=(HB.out.cell (World.block_lt_of_cell? w _ hx634_1)).trans hx634_1;replace hx634_2:=(HB.out.cell (World.block_lt_of_cell? w _ hx634_2)).trans hx634_2;replace hx634_3:=(HB.out.cell (World.block_lt_of_cell? w _ hx634_3)).trans hx634_3;replace p634:=eq_true p634;replace q634:=eq_true q634;refine start_ (n:=32) (S:=fun w' => w'.cell? ⟨gb627,0,none⟩ = some (.int .i64 a0_0) ∧ w'.cell? ⟨gb627,1,none⟩ = some (.int .i64 a0_1) ∧ w'.cell? ⟨gb627,2,none⟩ = some (.int .i64 a0_2) ∧ w'.cell? ⟨gb627,3,none⟩ = some (.slice (some ad634) l0_3.length c0_3) ∧ w'.cell? (ad634.add (((ji21)).toNat * 4)) = some (.int .i64 ((rd_T23 l0_3 (ji21)).f0)) ∧ w'.cell? ⟨(ad634.add (((ji21)).toNat * 4)).block,(ad634.add (((ji21)).toNat * 4)).off + 1,none⟩ = some (.int .i64 ((rd_T23 l0_3 (ji21)).f1)) ∧ w'.cell? ⟨(ad634.add (((ji21)).toNat * 4)).block,(ad634.add (((ji21)).toNat * 4)).off + 2,none⟩ = some (.int .i64 ((rd_T23 l0_3 (ji21)).f2)) ∧ w'.cell? ⟨(ad634.add (((ji21)).toNat * 4)).block,(ad634.add (((ji21)).toNat * 4)).off + 3,none⟩ = some (.int .i64 ((rd_T23 l0_3 (ji21)).f3))) (ds:=[]) #[false,false,false,false,false,false,false,false,false,false,false,false,false,false,false,false,false,false,false,false,false,false,false,false,false,false,false,false,false,false,false,false] (by kernel_rfl) rfl rfl ⟨(bc BK627.out 0).trans rfl,(bc BK627.out 1).trans rfl,(bc BK627.out 2).trans rfl,(bc BK627.out 3).trans rfl,((HB.out.cell (World.block_lt_of_cell? w _ hw634_0)).trans hw634_0),((HB.out.cell (World.block_lt_of_cell? w _ hw634_1)).trans hw634_1),((HB.out.cell (World.block_lt_of_cell? w _ hw634_2)).trans hw634_2),((HB.out.cell (World.block_lt_of_cell? w _ hw634_3)).trans hw634_3)⟩ (fun hHeld => ?_);refine with_tabW celluloidlaw20_PaintTiles.tab4 celluloidlaw20_PaintTiles.bits4 (fun HT_ HW_ => ?_);generalize w19.drew = w25 at BK627 HB hx634_0 hx634_1 hx634_2 hx634_3 hHeld ⊢;refine pure_ (i:=1) (N:=some 37) (v:=?_) (a':=?_) #[false,true,false,false,false,false,false,false,false,false,false,false,false,false,false,false,false,false,false,false,false,false,false,false,false,false,false,false,false,false,false,false] rfl rfl (any_of HT_.out (by kernel_rfl)) (fun _ _ _ h => h) (Or.inl ⟨by rfl,?_⟩) ?_ ?_
                    rotate_left
                    · intro w'
                      go_simp
                      with_reducible rfl
                    rotate_left
                    · simp only [Act.put,q1,q2,q3,i64_w,i32_w]
                      rfl
                    refine pure_ (i:=2) (N:=some 38) (v:=?_) (a':=?_) #[false,true,true,false,false,false,false,false,false,false,false,false,false,false,false,false,false,false,false,false,false,false,false,false,false,false,false,false,false,false,false,false] rfl rfl (any_of HT_.out (by kernel_rfl)) (fun _ _ _ h => h) (Or.inl ⟨by rfl,?_⟩) ?_ ?_
                    rotate_left
                    · intro w'
                      go_simp
                      with_reducible rfl
                    rotate_left
                    · simp only [Act.put,q1,q2,q3,i64_w,i32_w]
                      rfl
                    refine pure_ (i:=4) (N:=some 40) (v:=?_) (a':=?_) #[false,true,true,false,true,false,false,false,false,false,false,false,false,false,false,false,false,false,false,false,false,false,false,false,false,false,false,false,false,false,false,false] rfl rfl (any_of HT_.out (by kernel_rfl)) (fun _ _ _ h => h) (Or.inl ⟨by rfl,?_⟩) ?_ ?_
                    rotate_left
                    · intro w'
                      go_simp
                      with_reducible rfl
                    rotate_left
                    · simp only [Act.put,q1,q2,q3,i64_w,i32_w]
                      rfl
                    refine pure_ (i:=6) (N:=some 42) (v:=?_) (a':=?_) #[false,true,true,false,true,false,true,false,false,false,false,false,false,false,false,false,false,false,false,false,false,false,false,false,false,false,false,false,false,false,false,false] rfl rfl (any_of HT_.out (by kernel_rfl)) (fun _ _ _ h => h) (Or.inl ⟨by rfl,?_⟩) ?_ ?_
                    rotate_left
                    · intro w'
                      go_simp
                      with_reducible rfl
                    rotate_left
                    · simp only [Act.put,q1,q2,q3,i64_w,i32_w]
                      rfl
                    refine pure_ (i:=7) (N:=some 43) (v:=?_) (a':=?_) #[false,true,true,false,true,false,true,true,false,false,false,false,false,false,false,false,false,false,false,false,false,false,false,false,false,false,false,false,false,false,false,false] rfl rfl (any_of HT_.out (by kernel_rfl)) (fun _ _ _ h => h) (Or.inl ⟨by rfl,?_⟩) ?_ ?_
                    rotate_left
                    · intro w'
                      go_simp
                      with_reducible rfl
                    rotate_left
                    · simp only [Act.put,q1,q2,q3,i64_w,i32_w]
                      rfl
                    refine pure_ (i:=10) (N:=some 46) (v:=?_) (a':=?_) #[false,true,true,false,true,false,true,true,false,false,true,false,false,false,false,false,false,false,false,false,false,false,false,false,false,false,false,false,false,false,false,false] rfl rfl (any_of HT_.out (by kernel_rfl)) (fun _ _ _ h => h) (Or.inl ⟨by rfl,?_⟩) ?_ ?_
                    rotate_left
                    · intro w'
                      go_simp
                      with_reducible rfl
                    rotate_left
                    · simp only [Act.put,q1,q2,q3,i64_w,i32_w]
                      rfl
                    refine take_ (i:=0) (N:=some 36) (v:=?_) (a':=?_) #[true,true,true,false,true,false,true,true,false,false,true,false,false,false,false,false,false,false,false,false,false,false,false,false,false,false,false,false,false,false,false,false] rfl rfl (take_ofW HT_.out HW_.out (by kernel_rfl)) (fun _ _ _ h => h) (Or.inl ⟨by rfl,?_⟩) hHeld ?_ ?_
                    rotate_left
                    · rintro w' ⟨s0,s1,s2,s3,s4,s5,s6,s7⟩
                      go_simp
                      with_reducible rfl
                    rotate_left
                    · simp only [Act.put,q1,q2,q3,i64_w,i32_w]
                      rfl
                    refine take_ (i:=5) (N:=some 41) (v:=?_) (a':=?_) #[true,true,true,false,true,true,true,true,false,false,true,false,false,false,false,false,false,false,false,false,false,false,false,false,false,false,false,false,false,false,false,false] rfl rfl (take_ofW HT_.out HW_.out (by kernel_rfl)) (fun _ _ _ h => h) (Or.inl ⟨by rfl,?_⟩) hHeld ?_ ?_
                    rotate_left
                    · rintro w' ⟨s0,s1,s2,s3,s4,s5,s6,s7⟩
                      go_simp
                      with_reducible rfl
                    rotate_left
                    · simp only [Act.put,q1,q2,q3,i64_w,i32_w]
                      rfl
                    refine take_ (i:=8) (N:=some 44) (v:=?_) (a':=?_) #[true,true,true,false,true,true,true,true,true,false,true,false,false,false,false,false,false,false,false,false,false,false,false,false,false,false,false,false,false,false,false,false] rfl rfl (take_ofW HT_.out HW_.out (by kernel_rfl)) (fun _ _ _ h => h) (Or.inl ⟨by rfl,?_⟩) hHeld ?_ ?_
                    rotate_left
                    · rintro w' ⟨s0,s1,s2,s3,s4,s5,s6,s7⟩
                      go_simp
                      with_reducible rfl
                    rotate_left
                    · simp only [Act.put,q1,q2,q3,i64_w,i32_w]
                      rfl
                    refine pure_ (i:=9) (N:=some 45) (v:=?_) (a':=?_) #[true,true,true,false,true,true,true,true,true,true,true,false,false,false,false,false,false,false,false,false,false,false,false,false,false,false,false,false,false,false,false,false] rfl rfl (any_of HT_.out (by kernel_rfl)) (fun _ _ _ h => h) (Or.inl ⟨by rfl,?_⟩) ?_ ?_
                    rotate_left
                    · intro w'
                      go_simp
                      with_reducible rfl
                    rotate_left
                    · simp only [Act.put,q1,q2,q3,i64_w,i32_w]
                      rfl
                    refine pure_ (i:=11) (N:=some 47) (v:=?_) (a':=?_) #[true,true,true,false,true,true,true,true,true,true,true,true,false,false,false,false,false,false,false,false,false,false,false,false,false,false,false,false,false,false,false,false] rfl rfl (any_of HT_.out (by kernel_rfl)) (fun _ _ _ h => h) (Or.inl ⟨by rfl,?_⟩) ?_ ?_
                    rotate_left
                    · intro w'
                      go_simp
                      with_reducible rfl
                    rotate_left
                    · simp only [Act.put,q1,q2,q3,i64_w,i32_w]
                      rfl
                    refine pure_ (i:=12) (N:=some 48) (v:=?_) (a':=?_) #[true,true,true,false,true,true,true,true,true,true,true,true,true,false,false,false,false,false,false,false,false,false,false,false,false,false,false,false,false,false,false,false] rfl rfl (any_of HT_.out (by kernel_rfl)) (fun _ _ _ h => h) (Or.inl ⟨by rfl,?_⟩) ?_ ?_
                    rotate_left
                    · intro w'
                      go_simp
                      with_reducible rfl
                    rotate_left
                    · simp only [Act.put,q1,q2,q3,i64_w,i32_w]
                      rfl
                    refine take_ (i:=13) (N:=some 49) (v:=?_) (a':=?_) #[true,true,true,false,true,true,true,true,true,true,true,true,true,true,false,false,false,false,false,false,false,false,false,false,false,false,false,false,false,false,false,false] rfl rfl (take_ofW HT_.out HW_.out (by kernel_rfl)) (fun _ _ _ h => h) (Or.inl ⟨by rfl,?_⟩) hHeld ?_ ?_
                    rotate_left
                    · rintro w' ⟨s0,s1,s2,s3,s4,s5,s6,s7⟩
                      go_simp
                      with_reducible rfl
                    rotate_left
                    · simp only [Act.put,q1,q2,q3,i64_w,i32_w]
                      rfl
                    refine one_ (i:=3) (N:=some 39) #[true,true,true,true,true,true,true,true,true,true,true,true,true,true,false,false,false,false,false,false,false,false,false,false,false,false,false,false,false,false,false,false] rfl rfl (one_of HT_.out (by kernel_rfl)) (by decide) (fun K hK => ?_);refine goes_ Try.func23 (by kernel_rfl) rfl #[.agg #[.int .i64 a0_0,.int .i64 a0_1,.int .i64 a0_2,.slice (some ad634) l0_3.length c0_3],.int .i64 64,.int .i64 (Int.tmod (wrap64 (a1)) a0_1),.int .i64 (Int.tmod (wrap64 (a2)) a0_2)] (by rfl) rfl rfl (by (try simp only [List.map_toArray,List.map_cons,List.map_nil]);first|done|rfl|(simp only [List.length_drop,List.length_take];rfl)) ?_
                    with_reducible refine (celluloidlaw20_at.calls kj5 a0_0 a0_1 a0_2 (fun k_ => k_ < w.heap.size) _ _ l0_3 64 (Int.tmod (wrap64 (a1)) a0_1) (Int.tmod (wrap64 (a2)) a0_2) t630 t631 t632 t633 _ ?side1 A20.out).mono ?_
                    (case side1 => exact Kd.V_mk HC0_3.out (Kd.F_below (Kd.C_F k23_heap HR0_3.out) (by repeat (first|(with_reducible first|exact HB.out|apply sa|apply sn|apply sd|refine sx ?_ GE627.out)|exact HB.out))))
                    rintro e w26 ⟨rfl,hb⟩
                    refine ⟨_,rfl,?_⟩;replace BK627:=am (bw (by exact BK627.out) hb);replace HB:=am (ss (by repeat (first|(with_reducible first|exact HB.out|apply sa|apply sn|apply sd|refine sx ?_ GE627.out)|exact HB.out)) hb);(try clear hb);(try clear hb2);(try clear hk);(try clear hi);refine hK.out _ _ ⟨(bc BK627.out 0).trans rfl,(bc BK627.out 1).trans rfl,(bc BK627.out 2).trans rfl,(bc BK627.out 3).trans rfl,((HB.out.cell (World.block_lt_of_cell? w _ hw634_0)).trans hw634_0),((HB.out.cell (World.block_lt_of_cell? w _ hw634_1)).trans hw634_1),((HB.out.cell (World.block_lt_of_cell? w _ hw634_2)).trans hw634_2),((HB.out.cell (World.block_lt_of_cell? w _ hw634_3)).trans hw634_3)⟩ (fun hHeld => ?_);clear hK K;refine norm_ (a':=?_) ?_ ?_
                    rotate_left
                    · show Act.put _ (some 39) _ = _
                      simp only [Act.put,q1,q2,q3,i64_w,i32_w]
                      rfl
                    refine pure_ (i:=14) (N:=some 50) (v:=?_) (a':=?_) #[true,true,true,true,true,true,true,true,true,true,true,true,true,true,true,false,false,false,false,false,false,false,false,false,false,false,false,false,false,false,false,false] rfl rfl (any_of HT_.out (by kernel_rfl)) (fun _ _ _ h => h) (Or.inl ⟨by rfl,?_⟩) ?_ ?_
                    rotate_left
                    · intro w'
                      go_simp
                      with_reducible rfl
                    rotate_left
                    · simp only [Act.put,q1,q2,q3,i64_w,i32_w]
                      rfl
                    refine pure_ (i:=15) (N:=some 51) (v:=?_) (a':=?_) #[true,true,true,true,true,true,true,true,true,true,true,true,true,true,true,true,false,false,false,false,false,false,false,false,false,false,false,false,false,false,false,false] rfl rfl (any_of HT_.out (by kernel_rfl)) (fun _ _ _ h => h) (Or.inl ⟨by rfl,?_⟩) ?_ ?_
                    rotate_left
                    · intro w'
                      go_simp
                      with_reducible rfl
                    rotate_left
                    · simp only [Act.put,q1,q2,q3,i64_w,i32_w]
                      rfl
                    refine pure_ (i:=16) (N:=some 52) (v:=undef) (a':=?_) #[true,true,true,true,true,true,true,true,true,true,true,true,true,true,true,true,true,false,false,false,false,false,false,false,false,false,false,false,false,false,false,false] rfl rfl (any_of HT_.out (by kernel_rfl)) (fun _ _ _ h => h) (Or.inr ⟨by rfl,rfl⟩) ?_ ?_
                    rotate_left
                    · simp only [Act.put,q1,q2,q3,i64_w,i32_w]
                      rfl
                    refine pure_ (i:=17) (N:=some 53) (v:=undef) (a':=?_) #[true,true,true,true,true,true,true,true,true,true,true,true,true,true,true,true,true,true,false,false,false,false,false,false,false,false,false,false,false,false,false,false] rfl rfl (any_of HT_.out (by kernel_rfl)) (fun _ _ _ h => h) (Or.inr ⟨by rfl,rfl⟩) ?_ ?_
                    rotate_left
                    · simp only [Act.put,q1,q2,q3,i64_w,i32_w]
                      rfl
                    refine pure_ (i:=18) (N:=some 54) (v:=undef) (a':=?_) #[true,true,true,true,true,true,true,true,true,true,true,true,true,true,true,true,true,true,true,false,false,false,false,false,false,false,false,false,false,false,false,false] rfl rfl (any_of HT_.out (by kernel_rfl)) (fun _ _ _ h => h) (Or.inr ⟨by rfl,rfl⟩) ?_ ?_
                    rotate_left
                    · simp only [Act.put,q1,q2,q3,i64_w,i32_w]
                      rfl
                    refine pure_ (i:=19) (N:=some 55) (v:=undef) (a':=?_) #[true,true,true,true,true,true,true,true,true,true,true,true,true,true,true,true,true,true,true,true,false,false,false,false,false,false,false,false,false,false,false,false] rfl rfl (any_of HT_.out (by kernel_rfl)) (fun _ _ _ h => h) (Or.inr ⟨by rfl,rfl⟩) ?_ ?_
                    rotate_left
                    · simp only [Act.put,q1,q2,q3,i64_w,i32_w]
                      rfl
                    refine pure_ (i:=20) (N:=some 56) (v:=undef) (a':=?_) #[true,true,true,true,true,true,true,true,true,true,true,true,true,true,true,true,true,true,true,true,true,false,false,false,false,false,false,false,false,false,false,false] rfl rfl (any_of HT_.out (by kernel_rfl)) (fun _ _ _ h => h) (Or.inr ⟨by rfl,rfl⟩) ?_ ?_
                    rotate_left
                    · simp only [Act.put,q1,q2,q3,i64_w,i32_w]
                      rfl
                    refine pure_ (i:=21) (N:=some 57) (v:=undef) (a':=?_) #[true,true,true,true,true,true,true,true,true,true,true,true,true,true,true,true,true,true,true,true,true,true,false,false,false,false,false,false,false,false,false,false] rfl rfl (any_of HT_.out (by kernel_rfl)) (fun _ _ _ h => h) (Or.inr ⟨by rfl,rfl⟩) ?_ ?_
                    rotate_left
                    · simp only [Act.put,q1,q2,q3,i64_w,i32_w]
                      rfl
                    refine pure_ (i:=22) (N:=some 58) (v:=undef) (a':=?_) #[true,true,true,true,true,true,true,true,true,true,true,true,true,true,true,true,true,true,true,true,true,true,true,false,false,false,false,false,false,false,false,false] rfl rfl (any_of HT_.out (by kernel_rfl)) (fun _ _ _ h => h) (Or.inr ⟨by rfl,rfl⟩) ?_ ?_
                    rotate_left
                    · simp only [Act.put,q1,q2,q3,i64_w,i32_w]
                      rfl
                    refine pure_ (i:=23) (N:=some 59) (v:=undef) (a':=?_) #[true,true,true,true,true,true,true,true,true,true,true,true,true,true,true,true,true,true,true,true,true,true,true,true,false,false,false,false,false,false,false,false] rfl rfl (any_of HT_.out (by kernel_rfl)) (fun _ _ _ h => h) (Or.inr ⟨by rfl,rfl⟩) ?_ ?_
                    rotate_left
                    · simp only [Act.put,q1,q2,q3,i64_w,i32_w]
                      rfl
                    refine pure_ (i:=24) (N:=some 60) (v:=undef) (a':=?_) #[true,true,true,true,true,true,true,true,true,true,true,true,true,true,true,true,true,true,true,true,true,true,true,true,true,false,false,false,false,false,false,false] rfl rfl (any_of HT_.out (by kernel_rfl)) (fun _ _ _ h => h) (Or.inr ⟨by rfl,rfl⟩) ?_ ?_
                    rotate_left
                    · simp only [Act.put,q1,q2,q3,i64_w,i32_w]
                      rfl
                    refine pure_ (i:=25) (N:=some 61) (v:=undef) (a':=?_) #[true,true,true,true,true,true,true,true,true,true,true,true,true,true,true,true,true,true,true,true,true,true,true,true,true,true,false,false,false,false,false,false] rfl rfl (any_of HT_.out (by kernel_rfl)) (fun _ _ _ h => h) (Or.inr ⟨by rfl,rfl⟩) ?_ ?_
                    rotate_left
                    · simp only [Act.put,q1,q2,q3,i64_w,i32_w]
                      rfl
                    refine pure_ (i:=26) (N:=some 62) (v:=undef) (a':=?_) #[true,true,true,true,true,true,true,true,true,true,true,true,true,true,true,true,true,true,true,true,true,true,true,true,true,true,true,false,false,false,false,false] rfl rfl (any_of HT_.out (by kernel_rfl)) (fun _ _ _ h => h) (Or.inr ⟨by rfl,rfl⟩) ?_ ?_
                    rotate_left
                    · simp only [Act.put,q1,q2,q3,i64_w,i32_w]
                      rfl
                    refine pure_ (i:=27) (N:=some 63) (v:=undef) (a':=?_) #[true,true,true,true,true,true,true,true,true,true,true,true,true,true,true,true,true,true,true,true,true,true,true,true,true,true,true,true,false,false,false,false] rfl rfl (any_of HT_.out (by kernel_rfl)) (fun _ _ _ h => h) (Or.inr ⟨by rfl,rfl⟩) ?_ ?_
                    rotate_left
                    · simp only [Act.put,q1,q2,q3,i64_w,i32_w]
                      rfl
                    refine pure_ (i:=28) (N:=some 64) (v:=undef) (a':=?_) #[true,true,true,true,true,true,true,true,true,true,true,true,true,true,true,true,true,true,true,true,true,true,true,true,true,true,true,true,true,false,false,false] rfl rfl (any_of HT_.out (by kernel_rfl)) (fun _ _ _ h => h) (Or.inr ⟨by rfl,rfl⟩) ?_ ?_
                    rotate_left
                    · simp only [Act.put,q1,q2,q3,i64_w,i32_w]
                      rfl
                    refine pure_ (i:=29) (N:=some 65) (v:=undef) (a':=?_) #[true,true,true,true,true,true,true,true,true,true,true,true,true,true,true,true,true,true,true,true,true,true,true,true,true,true,true,true,true,true,false,false] rfl rfl (any_of HT_.out (by kernel_rfl)) (fun _ _ _ h => h) (Or.inr ⟨by rfl,rfl⟩) ?_ ?_
                    rotate_left
                    · simp only [Act.put,q1,q2,q3,i64_w,i32_w]
                      rfl
                    refine pure_ (i:=30) (N:=some 66) (v:=undef) (a':=?_) #[true,true,true,true,true,true,true,true,true,true,true,true,true,true,true,true,true,true,true,true,true,true,true,true,true,true,true,true,true,true,true,false] rfl rfl (any_of HT_.out (by kernel_rfl)) (fun _ _ _ h => h) (Or.inr ⟨by rfl,rfl⟩) ?_ ?_
                    rotate_left
                    · simp only [Act.put,q1,q2,q3,i64_w,i32_w]
                      rfl
                    refine pure_ (i:=31) (N:=some 67) (v:=?_) (a':=?_) #[true,true,true,true,true,true,true,true,true,true,true,true,true,true,true,true,true,true,true,true,true,true,true,true,true,true,true,true,true,true,true,true] rfl rfl (any_of HT_.out (by kernel_rfl)) (fun _ _ _ h => h) (Or.inl ⟨by rfl,?_⟩) ?_ ?_
                    rotate_left
                    · intro w'
                      go_simp
                      with_reducible rfl
                    rotate_left
                    · simp only [Act.put,q1,q2,q3,i64_w,i32_w]
                      rfl
                    refine done_ (done_of HT_.out (by kernel_rfl)) ?_
                    try go_wp2
                    go_meet
                    case rel => exact ⟨_,(true),(by first|rfl|(simp;done)|(simp [*];done)),H',⟨by have:=HJ5.out;first|omega|exact Nat.le_refl _⟩,⟨by exact BK627.out⟩,⟨by repeat (first|(with_reducible first|exact HB.out|apply sa|apply sn|apply sd|refine sx ?_ GE627.out)|exact HB.out)⟩⟩
                  · rw [if_neg c24] at H
                    have c24b0 : (!(t630 == ((rd_T23 l0_3 (ji21)).f0)) || (!(t631 == ((rd_T23 l0_3 (ji21)).f1)) || (!(t632 == ((rd_T23 l0_3 (ji21)).f2)) || (!(t633 == ((rd_T23 l0_3 (ji21)).f3)))))) = false:=by simpa using c24
                    clear c24;replace H:=Option.bind_eq_some_iff.mp H;obtain ⟨⟨t635,t636,t637,t638⟩,A270,H⟩:=H;replace H : (celluloidlaw20_PaintTiles.j1 kj5 a3 a4 (Int.tmod (wrap64 (a1)) a0_1) (Int.tmod (wrap64 (a2)) a0_2) (!(t635 == ((rd_T23 l0_3 (ji21)).f0)) || (!(t636 == ((rd_T23 l0_3 (ji21)).f1)) || (!(t637 == ((rd_T23 l0_3 (ji21)).f2)) || (!(t638 == ((rd_T23 l0_3 (ji21)).f3)))))) a0_0 a0_1 a0_2 l0_3) = some r:=H;have A27:=am A270;clear A270;have H':=am H;clear H
                    try go_wp2
                    replace BK627:=am (bd BK627.out);replace HB:=am (sd HB.out);have p634 : 0 ≤ ((ji21) : Int):=of_decide_eq_true (by first|(with_reducible assumption)|assumption);have q634 : (ji21) < (l0_3.length : Int):=of_decide_eq_true (by first|(with_reducible assumption)|assumption);obtain ⟨ad634,e634,hx634_0,hx634_1,hx634_2,hx634_3⟩:=at_T23 HR0_3.out (ji21) p634 q634;have hw634_3:=hx634_3;have hw634_2:=hx634_2;have hw634_1:=hx634_1;have hw634_0:=hx634_0
                    cases e634
                    replace hx634_0:=(HB.out.cell (World.block_lt_of_cell? w _ hx634_0)).trans hx634_0;replace hx634_1:=(HB.out.cell (World.block_lt_of_cell? w _ hx634_1)).trans hx634_1;replace hx634_2:=(HB.out.cell (World.block_lt_of_cell? w _ hx634_2)).trans hx634_2;replace hx634_3:=(HB.out.cell (World.block_lt_of_cell? w _ hx634_3)).trans hx634_3;replace p634:=eq_true p634;replace q634:=eq_true q634;have p639 : 0 ≤ ((ji21) : Int):=of_decide_eq_true (by first|(with_reducible assumption)|assumption);have q639 : (ji21) < (l0_3.length : Int):=of_decide_eq_true (by first|(with_reducible assumption)|assumption);obtain ⟨ad639,e639,hx639_0,hx639_1,hx639_2,hx639_3⟩:=at_T23 HR0_3.out (ji21) p639 q639;have hw639_3:=hx639_3;have hw639_2:=hx639_2;have hw639_1:=hx639_1;have hw639_0:=hx639_0;obtain rfl : ad634 = ad639:=(by injection e639);replace hx639_0:=(HB.out.cell (World.block_lt_of_cell? w _ hx639_0)).trans hx639_0;replace hx639_1:=(HB.out.cell (World.block_lt_of_cell? w _ hx639_1)).trans hx639_1;replace hx639_2:=(HB.out.cell (World.block_lt_of_cell? w _ hx639_2)).trans hx639_2;replace hx639_3:=(HB.out.cell (World.block_lt_of_cell? w _ hx639_3)).trans hx639_3;replace p639:=eq_true p639;replace q639:=eq_true q639;refine start_ (n:=32) (S:=fun w' => w'.cell? ⟨gb627,0,none⟩ = some (.int .i64 a0_0) ∧ w'.cell? ⟨gb627,1,none⟩ = some (.int .i64 a0_1) ∧ w'.cell? ⟨gb627,2,none⟩ = some (.int .i64 a0_2) ∧ w'.cell? ⟨gb627,3,none⟩ = some (.slice (some ad634) l0_3.length c0_3) ∧ w'.cell? (ad634.add (((ji21)).toNat * 4)) = some (.int .i64 ((rd_T23 l0_3 (ji21)).f0)) ∧ w'.cell? ⟨(ad634.add (((ji21)).toNat * 4)).block,(ad634.add (((ji21)).toNat * 4)).off + 1,none⟩ = some (.int .i64 ((rd_T23 l0_3 (ji21)).f1)) ∧ w'.cell? ⟨(ad634.add (((ji21)).toNat * 4)).block,(ad634.add (((ji21)).toNat * 4)).off + 2,none⟩ = some (.int .i64 ((rd_T23 l0_3 (ji21)).f2)) ∧ w'.cell? ⟨(ad634.add (((ji21)).toNat * 4)).block,(ad634.add (((ji21)).toNat * 4)).off + 3,none⟩ = some (.int .i64 ((rd_T23 l0_3 (ji21)).f3)) ∧ w'.cell? (ad634.add (((ji21)).toNat * 4)) = some (.int .i64 ((rd_T23 l0_3 (ji21)).f0)) ∧ w'.cell? ⟨(ad634.add (((ji21)).toNat * 4)).block,(ad634.add (((ji21)).toNat * 4)).off + 1,none⟩ = some (.int .i64 ((rd_T23 l0_3 (ji21)).f1)) ∧ w'.cell? ⟨(ad634.add (((ji21)).toNat * 4)).block,(ad634.add (((ji21)).toNat * 4)).off + 2,none⟩ = some (.int .i64 ((rd_T23 l0_3 (ji21)).f2)) ∧ w'.cell? ⟨(ad634.add (((ji21)).toNat * 4)).block,(ad634.add (((ji21)).toNat * 4)).off + 3,none⟩ = some (.int .i64 ((rd_T23 l0_3 (ji21)).f3))) (ds:=[]) #[false,false,false,false,false,false,false,false,false,false,false,false,false,false,false,false,false,false,false,false,false,false,false,false,false,false,false,false,false,false,false,false] (by kernel_rfl) rfl rfl ⟨(bc BK627.out 0).trans rfl,(bc BK627.out 1).trans rfl,(bc BK627.out 2).trans rfl,(bc BK627.out 3).trans rfl,((HB.out.cell (World.block_lt_of_cell? w _ hw634_0)).trans hw634_0),((HB.out.cell (World.block_lt_of_cell? w _ hw634_1)).trans hw634_1),((HB.out.cell (World.block_lt_of_cell? w _ hw634_2)).trans hw634_2),((HB.out.cell (World.block_lt_of_cell? w _ hw634_3)).trans hw634_3),((HB.out.cell (World.block_lt_of_cell? w _ hw639_0)).trans hw639_0),((HB.out.cell (World.block_lt_of_cell? w _ hw639_1)).trans hw639_1),((HB.out.cell (World.block_lt_of_cell? w _ hw639_2)).trans hw639_2),((HB.out.cell (World.block_lt_of_cell? w _ hw639_3)).trans hw639_3)⟩ (fun hHeld => ?_);refine with_tabW celluloidlaw20_PaintTiles.tab4 celluloidlaw20_PaintTiles.bits4 (fun HT_ HW_ => ?_);generalize w19.drew = w28 at BK627 HB hx634_0 hx634_1 hx634_2 hx634_3 hx639_0 hx639_1 hx639_2 hx639_3 hHeld ⊢;refine pure_ (i:=1) (N:=some 37) (v:=?_) (a':=?_) #[false,true,false,false,false,false,false,false,false,false,false,false,false,false,false,false,false,false,false,false,false,false,false,false,false,false,false,false,false,false,false,false] rfl rfl (any_of HT_.out (by kernel_rfl)) (fun _ _ _ h => h) (Or.inl ⟨by rfl,?_⟩) ?_ ?_
                    rotate_left
                    · intro w'
                      go_simp
                      with_reducible rfl
                    rotate_left
                    · simp only [Act.put,q1,q2,q3,i64_w,i32_w]
                      rfl
                    refine pure_ (i:=2) (N:=some 38) (v:=?_) (a':=?_) #[false,true,true,false,false,false,false,false,false,false,false,false,false,false,false,false,false,false,false,false,false,false,false,false,false,false,false,false,false,false,false,false] rfl rfl (any_of HT_.out (by kernel_rfl)) (fun _ _ _ h => h) (Or.inl ⟨by rfl,?_⟩) ?_ ?_
                    rotate_left
                    · intro w'
                      go_simp
                      with_reducible rfl
                    rotate_left
                    · simp only [Act.put,q1,q2,q3,i64_w,i32_w]
                      rfl
                    refine pure_ (i:=4) (N:=some 40) (v:=?_) (a':=?_) #[false,true,true,false,true,false,false,false,false,false,false,false,false,false,false,false,false,false,false,false,false,false,false,false,false,false,false,false,false,false,false,false] rfl rfl (any_of HT_.out (by kernel_rfl)) (fun _ _ _ h => h) (Or.inl ⟨by rfl,?_⟩) ?_ ?_
                    rotate_left
                    · intro w'
                      go_simp
                      with_reducible rfl
                    rotate_left
                    · simp only [Act.put,q1,q2,q3,i64_w,i32_w]
                      rfl
                    refine pure_ (i:=6) (N:=some 42) (v:=?_) (a':=?_) #[false,true,true,false,true,false,true,false,false,false,false,false,false,false,false,false,false,false,false,false,false,false,false,false,false,false,false,false,false,false,false,false] rfl rfl (any_of HT_.out (by kernel_rfl)) (fun _ _ _ h => h) (Or.inl ⟨by rfl,?_⟩) ?_ ?_
                    rotate_left
                    · intro w'
                      go_simp
                      with_reducible rfl
                    rotate_left
                    · simp only [Act.put,q1,q2,q3,i64_w,i32_w]
                      rfl
                    refine pure_ (i:=7) (N:=some 43) (v:=?_) (a':=?_) #[false,true,true,false,true,false,true,true,false,false,false,false,false,false,false,false,false,false,false,false,false,false,false,false,false,false,false,false,false,false,false,false] rfl rfl (any_of HT_.out (by kernel_rfl)) (fun _ _ _ h => h) (Or.inl ⟨by rfl,?_⟩) ?_ ?_
                    rotate_left
                    · intro w'
                      go_simp
                      with_reducible rfl
                    rotate_left
                    · simp only [Act.put,q1,q2,q3,i64_w,i32_w]
                      rfl
                    refine pure_ (i:=10) (N:=some 46) (v:=?_) (a':=?_) #[false,true,true,false,true,false,true,true,false,false,true,false,false,false,false,false,false,false,false,false,false,false,false,false,false,false,false,false,false,false,false,false] rfl rfl (any_of HT_.out (by kernel_rfl)) (fun _ _ _ h => h) (Or.inl ⟨by rfl,?_⟩) ?_ ?_
                    rotate_left
                    · intro w'
                      go_simp
                      with_reducible rfl
                    rotate_left
                    · simp only [Act.put,q1,q2,q3,i64_w,i32_w]
                      rfl
                    refine take_ (i:=0) (N:=some 36) (v:=?_) (a':=?_) #[true,true,true,false,true,false,true,true,false,false,true,false,false,false,false,false,false,false,false,false,false,false,false,false,false,false,false,false,false,false,false,false] rfl rfl (take_ofW HT_.out HW_.out (by kernel_rfl)) (fun _ _ _ h => h) (Or.inl ⟨by rfl,?_⟩) hHeld ?_ ?_
                    rotate_left
                    · rintro w' ⟨s0,s1,s2,s3,s4,s5,s6,s7,s8,s9,s10,s11⟩
                      go_simp
                      with_reducible rfl
                    rotate_left
                    · simp only [Act.put,q1,q2,q3,i64_w,i32_w]
                      rfl
                    refine take_ (i:=5) (N:=some 41) (v:=?_) (a':=?_) #[true,true,true,false,true,true,true,true,false,false,true,false,false,false,false,false,false,false,false,false,false,false,false,false,false,false,false,false,false,false,false,false] rfl rfl (take_ofW HT_.out HW_.out (by kernel_rfl)) (fun _ _ _ h => h) (Or.inl ⟨by rfl,?_⟩) hHeld ?_ ?_
                    rotate_left
                    · rintro w' ⟨s0,s1,s2,s3,s4,s5,s6,s7,s8,s9,s10,s11⟩
                      go_simp
                      with_reducible rfl
                    rotate_left
                    · simp only [Act.put,q1,q2,q3,i64_w,i32_w]
                      rfl
                    refine take_ (i:=8) (N:=some 44) (v:=?_) (a':=?_) #[true,true,true,false,true,true,true,true,true,false,true,false,false,false,false,false,false,false,false,false,false,false,false,false,false,false,false,false,false,false,false,false] rfl rfl (take_ofW HT_.out HW_.out (by kernel_rfl)) (fun _ _ _ h => h) (Or.inl ⟨by rfl,?_⟩) hHeld ?_ ?_
                    rotate_left
                    · rintro w' ⟨s0,s1,s2,s3,s4,s5,s6,s7,s8,s9,s10,s11⟩
                      go_simp
                      with_reducible rfl
                    rotate_left
                    · simp only [Act.put,q1,q2,q3,i64_w,i32_w]
                      rfl
                    refine pure_ (i:=9) (N:=some 45) (v:=?_) (a':=?_) #[true,true,true,false,true,true,true,true,true,true,true,false,false,false,false,false,false,false,false,false,false,false,false,false,false,false,false,false,false,false,false,false] rfl rfl (any_of HT_.out (by kernel_rfl)) (fun _ _ _ h => h) (Or.inl ⟨by rfl,?_⟩) ?_ ?_
                    rotate_left
                    · intro w'
                      go_simp
                      with_reducible rfl
                    rotate_left
                    · simp only [Act.put,q1,q2,q3,i64_w,i32_w]
                      rfl
                    refine pure_ (i:=11) (N:=some 47) (v:=?_) (a':=?_) #[true,true,true,false,true,true,true,true,true,true,true,true,false,false,false,false,false,false,false,false,false,false,false,false,false,false,false,false,false,false,false,false] rfl rfl (any_of HT_.out (by kernel_rfl)) (fun _ _ _ h => h) (Or.inl ⟨by rfl,?_⟩) ?_ ?_
                    rotate_left
                    · intro w'
                      go_simp
                      with_reducible rfl
                    rotate_left
                    · simp only [Act.put,q1,q2,q3,i64_w,i32_w]
                      rfl
                    refine pure_ (i:=12) (N:=some 48) (v:=?_) (a':=?_) #[true,true,true,false,true,true,true,true,true,true,true,true,true,false,false,false,false,false,false,false,false,false,false,false,false,false,false,false,false,false,false,false] rfl rfl (any_of HT_.out (by kernel_rfl)) (fun _ _ _ h => h) (Or.inl ⟨by rfl,?_⟩) ?_ ?_
                    rotate_left
                    · intro w'
                      go_simp
                      with_reducible rfl
                    rotate_left
                    · simp only [Act.put,q1,q2,q3,i64_w,i32_w]
                      rfl
                    refine take_ (i:=13) (N:=some 49) (v:=?_) (a':=?_) #[true,true,true,false,true,true,true,true,true,true,true,true,true,true,false,false,false,false,false,false,false,false,false,false,false,false,false,false,false,false,false,false] rfl rfl (take_ofW HT_.out HW_.out (by kernel_rfl)) (fun _ _ _ h => h) (Or.inl ⟨by rfl,?_⟩) hHeld ?_ ?_
                    rotate_left
                    · rintro w' ⟨s0,s1,s2,s3,s4,s5,s6,s7,s8,s9,s10,s11⟩
                      go_simp
                      with_reducible rfl
                    rotate_left
                    · simp only [Act.put,q1,q2,q3,i64_w,i32_w]
                      rfl
                    refine one_ (i:=3) (N:=some 39) #[true,true,true,true,true,true,true,true,true,true,true,true,true,true,false,false,false,false,false,false,false,false,false,false,false,false,false,false,false,false,false,false] rfl rfl (one_of HT_.out (by kernel_rfl)) (by decide) (fun K hK => ?_);refine goes_ Try.func23 (by kernel_rfl) rfl #[.agg #[.int .i64 a0_0,.int .i64 a0_1,.int .i64 a0_2,.slice (some ad634) l0_3.length c0_3],.int .i64 64,.int .i64 (Int.tmod (wrap64 (a1)) a0_1),.int .i64 (Int.tmod (wrap64 (a2)) a0_2)] (by rfl) rfl rfl (by (try simp only [List.map_toArray,List.map_cons,List.map_nil]);first|done|rfl|(simp only [List.length_drop,List.length_take];rfl)) ?_
                    with_reducible refine (celluloidlaw20_at.calls kj5 a0_0 a0_1 a0_2 (fun k_ => k_ < w.heap.size) _ _ l0_3 64 (Int.tmod (wrap64 (a1)) a0_1) (Int.tmod (wrap64 (a2)) a0_2) t630 t631 t632 t633 _ ?side1 A20.out).mono ?_
                    (case side1 => exact Kd.V_mk HC0_3.out (Kd.F_below (Kd.C_F k23_heap HR0_3.out) (by repeat (first|(with_reducible first|exact HB.out|apply sa|apply sn|apply sd|refine sx ?_ GE627.out)|exact HB.out))))
                    rintro e w29 ⟨rfl,hb⟩
                    refine ⟨_,rfl,?_⟩;replace BK627:=am (bw (by exact BK627.out) hb);replace HB:=am (ss (by repeat (first|(with_reducible first|exact HB.out|apply sa|apply sn|apply sd|refine sx ?_ GE627.out)|exact HB.out)) hb);(try clear hb);(try clear hb2);(try clear hk);(try clear hi);refine hK.out _ _ ⟨(bc BK627.out 0).trans rfl,(bc BK627.out 1).trans rfl,(bc BK627.out 2).trans rfl,(bc BK627.out 3).trans rfl,((HB.out.cell (World.block_lt_of_cell? w _ hw634_0)).trans hw634_0),((HB.out.cell (World.block_lt_of_cell? w _ hw634_1)).trans hw634_1),((HB.out.cell (World.block_lt_of_cell? w _ hw634_2)).trans hw634_2),((HB.out.cell (World.block_lt_of_cell? w _ hw634_3)).trans hw634_3),((HB.out.cell (World.block_lt_of_cell? w _ hw639_0)).trans hw639_0),((HB.out.cell (World.block_lt_of_cell? w _ hw639_1)).trans hw639_1),((HB.out.cell (World.block_lt_of_cell? w _ hw639_2)).trans hw639_2),((HB.out.cell (World.block_lt_of_cell? w _ hw639_3)).trans hw639_3)⟩ (fun hHeld => ?_);clear hK K;refine norm_ (a':=?_) ?_ ?_
                    rotate_left
                    · show Act.put _ (some 39) _ = _
                      simp only [Act.put,q1,q2,q3,i64_w,i32_w]
                      rfl
                    refine pure_ (i:=14) (N:=some 50) (v:=?_) (a':=?_) #[true,true,true,true,true,true,true,true,true,true,true,true,true,true,true,false,false,false,false,false,false,false,false,false,false,false,false,false,false,false,false,false] rfl rfl (any_of HT_.out (by kernel_rfl)) (fun _ _ _ h => h) (Or.inl ⟨by rfl,?_⟩) ?_ ?_
                    rotate_left
                    · intro w'
                      go_simp
                      with_reducible rfl
                    rotate_left
                    · simp only [Act.put,q1,q2,q3,i64_w,i32_w]
                      rfl
                    refine pure_ (i:=15) (N:=some 51) (v:=?_) (a':=?_) #[true,true,true,true,true,true,true,true,true,true,true,true,true,true,true,true,false,false,false,false,false,false,false,false,false,false,false,false,false,false,false,false] rfl rfl (any_of HT_.out (by kernel_rfl)) (fun _ _ _ h => h) (Or.inl ⟨by rfl,?_⟩) ?_ ?_
                    rotate_left
                    · intro w'
                      go_simp
                      with_reducible rfl
                    rotate_left
                    · simp only [Act.put,q1,q2,q3,i64_w,i32_w]
                      rfl
                    refine pure_ (i:=17) (N:=some 53) (v:=?_) (a':=?_) #[true,true,true,true,true,true,true,true,true,true,true,true,true,true,true,true,false,true,false,false,false,false,false,false,false,false,false,false,false,false,false,false] rfl rfl (any_of HT_.out (by kernel_rfl)) (fun _ _ _ h => h) (Or.inl ⟨by rfl,?_⟩) ?_ ?_
                    rotate_left
                    · intro w'
                      go_simp
                      with_reducible rfl
                    rotate_left
                    · simp only [Act.put,q1,q2,q3,i64_w,i32_w]
                      rfl
                    refine pure_ (i:=18) (N:=some 54) (v:=?_) (a':=?_) #[true,true,true,true,true,true,true,true,true,true,true,true,true,true,true,true,false,true,true,false,false,false,false,false,false,false,false,false,false,false,false,false] rfl rfl (any_of HT_.out (by kernel_rfl)) (fun _ _ _ h => h) (Or.inl ⟨by rfl,?_⟩) ?_ ?_
                    rotate_left
                    · intro w'
                      go_simp
                      with_reducible rfl
                    rotate_left
                    · simp only [Act.put,q1,q2,q3,i64_w,i32_w]
                      rfl
                    refine pure_ (i:=20) (N:=some 56) (v:=?_) (a':=?_) #[true,true,true,true,true,true,true,true,true,true,true,true,true,true,true,true,false,true,true,false,true,false,false,false,false,false,false,false,false,false,false,false] rfl rfl (any_of HT_.out (by kernel_rfl)) (fun _ _ _ h => h) (Or.inl ⟨by rfl,?_⟩) ?_ ?_
                    rotate_left
                    · intro w'
                      go_simp
                      with_reducible rfl
                    rotate_left
                    · simp only [Act.put,q1,q2,q3,i64_w,i32_w]
                      rfl
                    refine pure_ (i:=22) (N:=some 58) (v:=?_) (a':=?_) #[true,true,true,true,true,true,true,true,true,true,true,true,true,true,true,true,false,true,true,false,true,false,true,false,false,false,false,false,false,false,false,false] rfl rfl (any_of HT_.out (by kernel_rfl)) (fun _ _ _ h => h) (Or.inl ⟨by rfl,?_⟩) ?_ ?_
                    rotate_left
                    · intro w'
                      go_simp
                      with_reducible rfl
                    rotate_left
                    · simp only [Act.put,q1,q2,q3,i64_w,i32_w]
                      rfl
                    refine pure_ (i:=23) (N:=some 59) (v:=?_) (a':=?_) #[true,true,true,true,true,true,true,true,true,true,true,true,true,true,true,true,false,true,true,false,true,false,true,true,false,false,false,false,false,false,false,false] rfl rfl (any_of HT_.out (by kernel_rfl)) (fun _ _ _ h => h) (Or.inl ⟨by rfl,?_⟩) ?_ ?_
                    rotate_left
                    · intro w'
                      go_simp
                      with_reducible rfl
                    rotate_left
                    · simp only [Act.put,q1,q2,q3,i64_w,i32_w]
                      rfl
                    refine pure_ (i:=26) (N:=some 62) (v:=?_) (a':=?_) #[true,true,true,true,true,true,true,true,true,true,true,true,true,true,true,true,false,true,true,false,true,false,true,true,false,false,true,false,false,false,false,false] rfl rfl (any_of HT_.out (by kernel_rfl)) (fun _ _ _ h => h) (Or.inl ⟨by rfl,?_⟩) ?_ ?_
                    rotate_left
                    · intro w'
                      go_simp
                      with_reducible rfl
                    rotate_left
                    · simp only [Act.put,q1,q2,q3,i64_w,i32_w]
                      rfl
                    refine take_ (i:=16) (N:=some 52) (v:=?_) (a':=?_) #[true,true,true,true,true,true,true,true,true,true,true,true,true,true,true,true,true,true,true,false,true,false,true,true,false,false,true,false,false,false,false,false] rfl rfl (take_ofW HT_.out HW_.out (by kernel_rfl)) (fun _ _ _ h => h) (Or.inl ⟨by rfl,?_⟩) hHeld ?_ ?_
                    rotate_left
                    · rintro w' ⟨s0,s1,s2,s3,s4,s5,s6,s7,s8,s9,s10,s11⟩
                      go_simp
                      with_reducible rfl
                    rotate_left
                    · simp only [Act.put,q1,q2,q3,i64_w,i32_w]
                      rfl
                    refine take_ (i:=21) (N:=some 57) (v:=?_) (a':=?_) #[true,true,true,true,true,true,true,true,true,true,true,true,true,true,true,true,true,true,true,false,true,true,true,true,false,false,true,false,false,false,false,false] rfl rfl (take_ofW HT_.out HW_.out (by kernel_rfl)) (fun _ _ _ h => h) (Or.inl ⟨by rfl,?_⟩) hHeld ?_ ?_
                    rotate_left
                    · rintro w' ⟨s0,s1,s2,s3,s4,s5,s6,s7,s8,s9,s10,s11⟩
                      go_simp
                      with_reducible rfl
                    rotate_left
                    · simp only [Act.put,q1,q2,q3,i64_w,i32_w]
                      rfl
                    refine take_ (i:=24) (N:=some 60) (v:=?_) (a':=?_) #[true,true,true,true,true,true,true,true,true,true,true,true,true,true,true,true,true,true,true,false,true,true,true,true,true,false,true,false,false,false,false,false] rfl rfl (take_ofW HT_.out HW_.out (by kernel_rfl)) (fun _ _ _ h => h) (Or.inl ⟨by rfl,?_⟩) hHeld ?_ ?_
                    rotate_left
                    · rintro w' ⟨s0,s1,s2,s3,s4,s5,s6,s7,s8,s9,s10,s11⟩
                      go_simp
                      with_reducible rfl
                    rotate_left
                    · simp only [Act.put,q1,q2,q3,i64_w,i32_w]
                      rfl
                    refine pure_ (i:=25) (N:=some 61) (v:=?_) (a':=?_) #[true,true,true,true,true,true,true,true,true,true,true,true,true,true,true,true,true,true,true,false,true,true,true,true,true,true,true,false,false,false,false,false] rfl rfl (any_of HT_.out (by kernel_rfl)) (fun _ _ _ h => h) (Or.inl ⟨by rfl,?_⟩) ?_ ?_
                    rotate_left
                    · intro w'
                      go_simp
                      with_reducible rfl
                    rotate_left
                    · simp only [Act.put,q1,q2,q3,i64_w,i32_w]
                      rfl
                    refine pure_ (i:=27) (N:=some 63) (v:=?_) (a':=?_) #[true,true,true,true,true,true,true,true,true,true,true,true,true,true,true,true,true,true,true,false,true,true,true,true,true,true,true,true,false,false,false,false] rfl rfl (any_of HT_.out (by kernel_rfl)) (fun _ _ _ h => h) (Or.inl ⟨by rfl,?_⟩) ?_ ?_
                    rotate_left
                    · intro w'
                      go_simp
                      with_reducible rfl
                    rotate_left
                    · simp only [Act.put,q1,q2,q3,i64_w,i32_w]
                      rfl
                    refine pure_ (i:=28) (N:=some 64) (v:=?_) (a':=?_) #[true,true,true,true,true,true,true,true,true,true,true,true,true,true,true,true,true,true,true,false,true,true,true,true,true,true,true,true,true,false,false,false] rfl rfl (any_of HT_.out (by kernel_rfl)) (fun _ _ _ h => h) (Or.inl ⟨by rfl,?_⟩) ?_ ?_
                    rotate_left
                    · intro w'
                      go_simp
                      with_reducible rfl
                    rotate_left
                    · simp only [Act.put,q1,q2,q3,i64_w,i32_w]
                      rfl
                    refine take_ (i:=29) (N:=some 65) (v:=?_) (a':=?_) #[true,true,true,true,true,true,true,true,true,true,true,true,true,true,true,true,true,true,true,false,true,true,true,true,true,true,true,true,true,true,false,false] rfl rfl (take_ofW HT_.out HW_.out (by kernel_rfl)) (fun _ _ _ h => h) (Or.inl ⟨by rfl,?_⟩) hHeld ?_ ?_
                    rotate_left
                    · rintro w' ⟨s0,s1,s2,s3,s4,s5,s6,s7,s8,s9,s10,s11⟩
                      go_simp
                      with_reducible rfl
                    rotate_left
                    · simp only [Act.put,q1,q2,q3,i64_w,i32_w]
                      rfl
                    refine one_ (i:=19) (N:=some 55) #[true,true,true,true,true,true,true,true,true,true,true,true,true,true,true,true,true,true,true,true,true,true,true,true,true,true,true,true,true,true,false,false] rfl rfl (one_of HT_.out (by kernel_rfl)) (by decide) (fun K hK => ?_);refine goes_ Try.func23 (by kernel_rfl) rfl #[.agg #[.int .i64 a0_0,.int .i64 a0_1,.int .i64 a0_2,.slice (some ad634) l0_3.length c0_3],.int .i64 65,.int .i64 (Int.tmod (wrap64 (a1)) a0_1),.int .i64 (Int.tmod (wrap64 (a2)) a0_2)] (by rfl) rfl rfl (by (try simp only [List.map_toArray,List.map_cons,List.map_nil]);first|done|rfl|(simp only [List.length_drop,List.length_take];rfl)) ?_
                    with_reducible refine (celluloidlaw20_at.calls kj5 a0_0 a0_1 a0_2 (fun k_ => k_ < w.heap.size) _ _ l0_3 65 (Int.tmod (wrap64 (a1)) a0_1) (Int.tmod (wrap64 (a2)) a0_2) t635 t636 t637 t638 _ ?side1 A27.out).mono ?_
                    (case side1 => exact Kd.V_mk HC0_3.out (Kd.F_below (Kd.C_F k23_heap HR0_3.out) (by repeat (first|(with_reducible first|exact HB.out|apply sa|apply sn|apply sd|refine sx ?_ GE627.out)|exact HB.out))))
                    rintro e w30 ⟨rfl,hb⟩
                    refine ⟨_,rfl,?_⟩;replace BK627:=am (bw (by exact BK627.out) hb);replace HB:=am (ss (by repeat (first|(with_reducible first|exact HB.out|apply sa|apply sn|apply sd|refine sx ?_ GE627.out)|exact HB.out)) hb);(try clear hb);(try clear hb2);(try clear hk);(try clear hi);refine hK.out _ _ ⟨(bc BK627.out 0).trans rfl,(bc BK627.out 1).trans rfl,(bc BK627.out 2).trans rfl,(bc BK627.out 3).trans rfl,((HB.out.cell (World.block_lt_of_cell? w _ hw634_0)).trans hw634_0),((HB.out.cell (World.block_lt_of_cell? w _ hw634_1)).trans hw634_1),((HB.out.cell (World.block_lt_of_cell? w _ hw634_2)).trans hw634_2),((HB.out.cell (World.block_lt_of_cell? w _ hw634_3)).trans hw634_3),((HB.out.cell (World.block_lt_of_cell? w _ hw639_0)).trans hw639_0),((HB.out.cell (World.block_lt_of_cell? w _ hw639_1)).trans hw639_1),((HB.out.cell (World.block_lt_of_cell? w _ hw639_2)).trans hw639_2),((HB.out.cell (World.block_lt_of_cell? w _ hw639_3)).trans hw639_3)⟩ (fun hHeld => ?_);clear hK K;refine norm_ (a':=?_) ?_ ?_
                    rotate_left
                    · show Act.put _ (some 55) _ = _
                      simp only [Act.put,q1,q2,q3,i64_w,i32_w]
                      rfl
                    refine pure_ (i:=30) (N:=some 66) (v:=?_) (a':=?_) #[true,true,true,true,true,true,true,true,true,true,true,true,true,true,true,true,true,true,true,true,true,true,true,true,true,true,true,true,true,true,true,false] rfl rfl (any_of HT_.out (by kernel_rfl)) (fun _ _ _ h => h) (Or.inl ⟨by rfl,?_⟩) ?_ ?_
                    rotate_left
                    · intro w'
                      go_simp
                      with_reducible rfl
                    rotate_left
                    · simp only [Act.put,q1,q2,q3,i64_w,i32_w]
                      rfl
                    refine pure_ (i:=31) (N:=some 67) (v:=?_) (a':=?_) #[true,true,true,true,true,true,true,true,true,true,true,true,true,true,true,true,true,true,true,true,true,true,true,true,true,true,true,true,true,true,true,true] rfl rfl (any_of HT_.out (by kernel_rfl)) (fun _ _ _ h => h) (Or.inl ⟨by rfl,?_⟩) ?_ ?_
                    rotate_left
                    · intro w'
                      go_simp
                      with_reducible rfl
                    rotate_left
                    · simp only [Act.put,q1,q2,q3,i64_w,i32_w]
                      rfl
                    refine done_ (done_of HT_.out (by kernel_rfl)) ?_
                    try go_wp2
                    go_meet
                    case rel => exact ⟨_,((!(t635 == ((rd_T23 l0_3 (ji21)).f0)) || (!(t636 == ((rd_T23 l0_3 (ji21)).f1)) || (!(t637 == ((rd_T23 l0_3 (ji21)).f2)) || (!(t638 == ((rd_T23 l0_3 (ji21)).f3))))))),(by first|rfl|(simp;done)|(simp only [← hji21] <;> (first|rfl|simp))|(simp [*];done)),H',⟨by have:=HJ5.out;first|omega|exact Nat.le_refl _⟩,⟨by exact BK627.out⟩,⟨by repeat (first|(with_reducible first|exact HB.out|apply sa|apply sn|apply sd|refine sx ?_ GE627.out)|exact HB.out)⟩⟩
                · rw [if_neg c23] at H
                  exact absurd H (by simp)
              · rw [if_neg c22] at H
                exact absurd H (by simp)
            case rest =>
              clear HC18
              (try clear c2);(try clear p2);(try clear p6);(try clear q6);(try clear hx6);(try clear c22);(try clear c22b0);(try clear c23);(try clear c23b0);(try clear c24);(try clear c24b0);(try clear hx634_0);(try clear hx634_1);(try clear hx634_2);(try clear hx634_3);(try clear hx639_0);(try clear hx639_1);(try clear hx639_2);(try clear hx639_3);(try clear p634);(try clear p639);(try clear q634);(try clear q639)
              obtain ⟨kq,x67_17,rfl,HA,HJ17,BK627,HB⟩:=hcut
              cases kq with
              | zero => exact absurd HA.out (by simp [celluloidlaw20_PaintTiles.j1])
              | succ kj17 =>
                have H:=HA.out;clear HA;simp only [celluloidlaw20_PaintTiles.j1] at H
                by_cases c31 : x67_17 = true
                · subst c31
                  have H1 : (some false) = some r:=by rw [if_pos rfl] at H;exact H
                  clear H;have H:=H1;clear H1;obtain rfl:=Option.some.inj H
                  go_wp2
                  go_ret
                  exact ⟨by first|rfl|(simp [errW_none,errW_some] <;> rfl)|(simp [*,errW_none,errW_some] <;> rfl),by repeat (first|(with_reducible first|exact HB.out|apply sa|apply sn|apply sd|refine sx ?_ GE627.out)|exact HB.out)⟩
                · replace c31:=Bool.eq_false_iff.mpr c31
                  subst c31
                  have H1 : (if 0 ≤ (wrap64 ((wrap64 ((mn (mx (wrap64 ((Int.tmod (wrap64 (a2)) a0_2) + (wrap64 ((wrap64 (a4)) * a0_2)))) 0) (wrap64 (a0_2 - 1))) * a0_1)) + (mn (mx (wrap64 ((Int.tmod (wrap64 (a1)) a0_1) + (wrap64 ((wrap64 (a3)) * a0_1)))) 0) (wrap64 (a0_1 - 1))))) then (if (wrap64 ((wrap64 ((mn (mx (wrap64 ((Int.tmod (wrap64 (a2)) a0_2) + (wrap64 ((wrap64 (a4)) * a0_2)))) 0) (wrap64 (a0_2 - 1))) * a0_1)) + (mn (mx (wrap64 ((Int.tmod (wrap64 (a1)) a0_1) + (wrap64 ((wrap64 (a3)) * a0_1)))) 0) (wrap64 (a0_1 - 1))))) < (l0_3.length : Int) then ((celluloidlaw20_at.f kj17 a0_0 a0_1 a0_2 l0_3 64 (wrap64 ((Int.tmod (wrap64 (a1)) a0_1) + (wrap64 ((wrap64 (a3)) * a0_1)))) (wrap64 ((Int.tmod (wrap64 (a2)) a0_2) + (wrap64 ((wrap64 (a4)) * a0_2))))).bind fun bt642 => (if 0 ≤ (wrap64 ((wrap64 ((Int.tmod (wrap64 (a2)) a0_2) * a0_1)) + (Int.tmod (wrap64 (a1)) a0_1))) then (if (wrap64 ((wrap64 ((Int.tmod (wrap64 (a2)) a0_2) * a0_1)) + (Int.tmod (wrap64 (a1)) a0_1))) < (l0_3.length : Int) then (if (bt642.1 == ((rd_T23 l0_3 (wrap64 ((wrap64 ((Int.tmod (wrap64 (a2)) a0_2) * a0_1)) + (Int.tmod (wrap64 (a1)) a0_1)))).f0) && (bt642.2.1 == ((rd_T23 l0_3 (wrap64 ((wrap64 ((Int.tmod (wrap64 (a2)) a0_2) * a0_1)) + (Int.tmod (wrap64 (a1)) a0_1)))).f1) && (bt642.2.2.1 == ((rd_T23 l0_3 (wrap64 ((wrap64 ((Int.tmod (wrap64 (a2)) a0_2) * a0_1)) + (Int.tmod (wrap64 (a1)) a0_1)))).f2) && (bt642.2.2.2 == ((rd_T23 l0_3 (wrap64 ((wrap64 ((Int.tmod (wrap64 (a2)) a0_2) * a0_1)) + (Int.tmod (wrap64 (a1)) a0_1)))).f3))))) = true then ((celluloidlaw20_at.f kj17 a0_0 a0_1 a0_2 l0_3 65 (wrap64 ((Int.tmod (wrap64 (a1)) a0_1) + (wrap64 ((wrap64 (a3)) * a0_1)))) (wrap64 ((Int.tmod (wrap64 (a2)) a0_2) + (wrap64 ((wrap64 (a4)) * a0_2))))).bind fun bt647 => (if (bt647.1 == ((rd_T23 l0_3 (wrap64 ((wrap64 ((mn (mx (wrap64 ((Int.tmod (wrap64 (a2)) a0_2) + (wrap64 ((wrap64 (a4)) * a0_2)))) 0) (wrap64 (a0_2 - 1))) * a0_1)) + (mn (mx (wrap64 ((Int.tmod (wrap64 (a1)) a0_1) + (wrap64 ((wrap64 (a3)) * a0_1)))) 0) (wrap64 (a0_1 - 1)))))).f0) && (bt647.2.1 == ((rd_T23 l0_3 (wrap64 ((wrap64 ((mn (mx (wrap64 ((Int.tmod (wrap64 (a2)) a0_2) + (wrap64 ((wrap64 (a4)) * a0_2)))) 0) (wrap64 (a0_2 - 1))) * a0_1)) + (mn (mx (wrap64 ((Int.tmod (wrap64 (a1)) a0_1) + (wrap64 ((wrap64 (a3)) * a0_1)))) 0) (wrap64 (a0_1 - 1)))))).f1) && (bt647.2.2.1 == ((rd_T23 l0_3 (wrap64 ((wrap64 ((mn (mx (wrap64 ((Int.tmod (wrap64 (a2)) a0_2) + (wrap64 ((wrap64 (a4)) * a0_2)))) 0) (wrap64 (a0_2 - 1))) * a0_1)) + (mn (mx (wrap64 ((Int.tmod (wrap64 (a1)) a0_1) + (wrap64 ((wrap64 (a3)) * a0_1)))) 0) (wrap64 (a0_1 - 1)))))).f2) && (bt647.2.2.2 == ((rd_T23 l0_3 (wrap64 ((wrap64 ((mn (mx (wrap64 ((Int.tmod (wrap64 (a2)) a0_2) + (wrap64 ((wrap64 (a4)) * a0_2)))) 0) (wrap64 (a0_2 - 1))) * a0_1)) + (mn (mx (wrap64 ((Int.tmod (wrap64 (a1)) a0_1) + (wrap64 ((wrap64 (a3)) * a0_1)))) 0) (wrap64 (a0_1 - 1)))))).f3))))) = true then ((celluloidlaw20_awake.f kj17).bind fun t651 => (some t651)) else (some false))) else (some false)) else (none)) else (none))) else (none)) else (none)) = some r:=by rw [if_neg (show ¬ (false = true) by decide)] at H;exact H
                  clear H;have H:=H1;clear H1;obtain ⟨ji32,hji32⟩ : ∃ j_ : Int,(mx (wrap64 ((Int.tmod (wrap64 (a2)) a0_2) + (wrap64 ((wrap64 (a4)) * a0_2)))) 0) = j_:=⟨_,rfl⟩
                  replace H : (if 0 ≤ (wrap64 ((wrap64 ((mn (ji32) (wrap64 (a0_2 - 1))) * a0_1)) + (mn (mx (wrap64 ((Int.tmod (wrap64 (a1)) a0_1) + (wrap64 ((wrap64 (a3)) * a0_1)))) 0) (wrap64 (a0_1 - 1))))) then (if (wrap64 ((wrap64 ((mn (ji32) (wrap64 (a0_2 - 1))) * a0_1)) + (mn (mx (wrap64 ((Int.tmod (wrap64 (a1)) a0_1) + (wrap64 ((wrap64 (a3)) * a0_1)))) 0) (wrap64 (a0_1 - 1))))) < (l0_3.length : Int) then ((celluloidlaw20_at.f kj17 a0_0 a0_1 a0_2 l0_3 64 (wrap64 ((Int.tmod (wrap64 (a1)) a0_1) + (wrap64 ((wrap64 (a3)) * a0_1)))) (wrap64 ((Int.tmod (wrap64 (a2)) a0_2) + (wrap64 ((wrap64 (a4)) * a0_2))))).bind fun bt642 => (if 0 ≤ (wrap64 ((wrap64 ((Int.tmod (wrap64 (a2)) a0_2) * a0_1)) + (Int.tmod (wrap64 (a1)) a0_1))) then (if (wrap64 ((wrap64 ((Int.tmod (wrap64 (a2)) a0_2) * a0_1)) + (Int.tmod (wrap64 (a1)) a0_1))) < (l0_3.length : Int) then (if (bt642.1 == ((rd_T23 l0_3 (wrap64 ((wrap64 ((Int.tmod (wrap64 (a2)) a0_2) * a0_1)) + (Int.tmod (wrap64 (a1)) a0_1)))).f0) && (bt642.2.1 == ((rd_T23 l0_3 (wrap64 ((wrap64 ((Int.tmod (wrap64 (a2)) a0_2) * a0_1)) + (Int.tmod (wrap64 (a1)) a0_1)))).f1) && (bt642.2.2.1 == ((rd_T23 l0_3 (wrap64 ((wrap64 ((Int.tmod (wrap64 (a2)) a0_2) * a0_1)) + (Int.tmod (wrap64 (a1)) a0_1)))).f2) && (bt642.2.2.2 == ((rd_T23 l0_3 (wrap64 ((wrap64 ((Int.tmod (wrap64 (a2)) a0_2) * a0_1)) + (Int.tmod (wrap64 (a1)) a0_1)))).f3))))) = true then ((celluloidlaw20_at.f kj17 a0_0 a0_1 a0_2 l0_3 65 (wrap64 ((Int.tmod (wrap64 (a1)) a0_1) + (wrap64 ((wrap64 (a3)) * a0_1)))) (wrap64 ((Int.tmod (wrap64 (a2)) a0_2) + (wrap64 ((wrap64 (a4)) * a0_2))))).bind fun bt647 => (if (bt647.1 == ((rd_T23 l0_3 (wrap64 ((wrap64 ((mn (ji32) (wrap64 (a0_2 - 1))) * a0_1)) + (mn (mx (wrap64 ((Int.tmod (wrap64 (a1)) a0_1) + (wrap64 ((wrap64 (a3)) * a0_1)))) 0) (wrap64 (a0_1 - 1)))))).f0) && (bt647.2.1 == ((rd_T23 l0_3 (wrap64 ((wrap64 ((mn (ji32) (wrap64 (a0_2 - 1))) * a0_1)) + (mn (mx (wrap64 ((Int.tmod (wrap64 (a1)) a0_1) + (wrap64 ((wrap64 (a3)) * a0_1)))) 0) (wrap64 (a0_1 - 1)))))).f1) && (bt647.2.2.1 == ((rd_T23 l0_3 (wrap64 ((wrap64 ((mn (ji32) (wrap64 (a0_2 - 1))) * a0_1)) + (mn (mx (wrap64 ((Int.tmod (wrap64 (a1)) a0_1) + (wrap64 ((wrap64 (a3)) * a0_1)))) 0) (wrap64 (a0_1 - 1)))))).f2) && (bt647.2.2.2 == ((rd_T23 l0_3 (wrap64 ((wrap64 ((mn (ji32) (wrap64 (a0_2 - 1))) * a0_1)) + (mn (mx (wrap64 ((Int.tmod (wrap64 (a1)) a0_1) + (wrap64 ((wrap64 (a3)) * a0_1)))) 0) (wrap64 (a0_1 - 1)))))).f3))))) = true then ((celluloidlaw20_awake.f kj17).bind fun t651 => (some t651)) else (some false))) else (some false)) else (none)) else (none))) else (none)) else (none)) = some r:=by first|(rw [hji32] at H;exact H)|(simp only [hji32] at H ⊢;exact H)
                  have hji32_ : (if (wrap64 ((Int.tmod (wrap64 (a2)) a0_2) + (wrap64 ((wrap64 (a4)) * a0_2)))) < 0 then 0 else (wrap64 ((Int.tmod (wrap64 (a2)) a0_2) + (wrap64 ((wrap64 (a4)) * a0_2))))) = ji32:=hji32;obtain ⟨ji33,hji33⟩ : ∃ j_ : Int,(mn (ji32) (wrap64 (a0_2 - 1))) = j_:=⟨_,rfl⟩
                  replace H : (if 0 ≤ (wrap64 ((wrap64 ((ji33) * a0_1)) + (mn (mx (wrap64 ((Int.tmod (wrap64 (a1)) a0_1) + (wrap64 ((wrap64 (a3)) * a0_1)))) 0) (wrap64 (a0_1 - 1))))) then (if (wrap64 ((wrap64 ((ji33) * a0_1)) + (mn (mx (wrap64 ((Int.tmod (wrap64 (a1)) a0_1) + (wrap64 ((wrap64 (a3)) * a0_1)))) 0) (wrap64 (a0_1 - 1))))) < (l0_3.length : Int) then ((celluloidlaw20_at.f kj17 a0_0 a0_1 a0_2 l0_3 64 (wrap64 ((Int.tmod (wrap64 (a1)) a0_1) + (wrap64 ((wrap64 (a3)) * a0_1)))) (wrap64 ((Int.tmod (wrap64 (a2)) a0_2) + (wrap64 ((wrap64 (a4)) * a0_2))))).bind fun bt642 => (if 0 ≤ (wrap64 ((wrap64 ((Int.tmod (wrap64 (a2)) a0_2) * a0_1)) + (Int.tmod (wrap64 (a1)) a0_1))) then (if (wrap64 ((wrap64 ((Int.tmod (wrap64 (a2)) a0_2) * a0_1)) + (Int.tmod (wrap64 (a1)) a0_1))) < (l0_3.length : Int) then (if (bt642.1 == ((rd_T23 l0_3 (wrap64 ((wrap64 ((Int.tmod (wrap64 (a2)) a0_2) * a0_1)) + (Int.tmod (wrap64 (a1)) a0_1)))).f0) && (bt642.2.1 == ((rd_T23 l0_3 (wrap64 ((wrap64 ((Int.tmod (wrap64 (a2)) a0_2) * a0_1)) + (Int.tmod (wrap64 (a1)) a0_1)))).f1) && (bt642.2.2.1 == ((rd_T23 l0_3 (wrap64 ((wrap64 ((Int.tmod (wrap64 (a2)) a0_2) * a0_1)) + (Int.tmod (wrap64 (a1)) a0_1)))).f2) && (bt642.2.2.2 == ((rd_T23 l0_3 (wrap64 ((wrap64 ((Int.tmod (wrap64 (a2)) a0_2) * a0_1)) + (Int.tmod (wrap64 (a1)) a0_1)))).f3))))) = true then ((celluloidlaw20_at.f kj17 a0_0 a0_1 a0_2 l0_3 65 (wrap64 ((Int.tmod (wrap64 (a1)) a0_1) + (wrap64 ((wrap64 (a3)) * a0_1)))) (wrap64 ((Int.tmod (wrap64 (a2)) a0_2) + (wrap64 ((wrap64 (a4)) * a0_2))))).bind fun bt647 => (if (bt647.1 == ((rd_T23 l0_3 (wrap64 ((wrap64 ((ji33) * a0_1)) + (mn (mx (wrap64 ((Int.tmod (wrap64 (a1)) a0_1) + (wrap64 ((wrap64 (a3)) * a0_1)))) 0) (wrap64 (a0_1 - 1)))))).f0) && (bt647.2.1 == ((rd_T23 l0_3 (wrap64 ((wrap64 ((ji33) * a0_1)) + (mn (mx (wrap64 ((Int.tmod (wrap64 (a1)) a0_1) + (wrap64 ((wrap64 (a3)) * a0_1)))) 0) (wrap64 (a0_1 - 1)))))).f1) && (bt647.2.2.1 == ((rd_T23 l0_3 (wrap64 ((wrap64 ((ji33) * a0_1)) + (mn (mx (wrap64 ((Int.tmod (wrap64 (a1)) a0_1) + (wrap64 ((wrap64 (a3)) * a0_1)))) 0) (wrap64 (a0_1 - 1)))))).f2) && (bt647.2.2.2 == ((rd_T23 l0_3 (wrap64 ((wrap64 ((ji33) * a0_1)) + (mn (mx (wrap64 ((Int.tmod (wrap64 (a1)) a0_1) + (wrap64 ((wrap64 (a3)) * a0_1)))) 0) (wrap64 (a0_1 - 1)))))).f3))))) = true then ((celluloidlaw20_awake.f kj17).bind fun t651 => (some t651)) else (some false))) else (some false)) else (none)) else (none))) else (none)) else (none)) = some r:=by first|(rw [hji33] at H;exact H)|(simp only [hji33] at H ⊢;exact H)
                  have hji33_ : (if (wrap64 (a0_2 - 1)) < (ji32) then (wrap64 (a0_2 - 1)) else (ji32)) = ji33:=hji33;obtain ⟨ji34,hji34⟩ : ∃ j_ : Int,(mx (wrap64 ((Int.tmod (wrap64 (a1)) a0_1) + (wrap64 ((wrap64 (a3)) * a0_1)))) 0) = j_:=⟨_,rfl⟩
                  replace H : (if 0 ≤ (wrap64 ((wrap64 ((ji33) * a0_1)) + (mn (ji34) (wrap64 (a0_1 - 1))))) then (if (wrap64 ((wrap64 ((ji33) * a0_1)) + (mn (ji34) (wrap64 (a0_1 - 1))))) < (l0_3.length : Int) then ((celluloidlaw20_at.f kj17 a0_0 a0_1 a0_2 l0_3 64 (wrap64 ((Int.tmod (wrap64 (a1)) a0_1) + (wrap64 ((wrap64 (a3)) * a0_1)))) (wrap64 ((Int.tmod (wrap64 (a2)) a0_2) + (wrap64 ((wrap64 (a4)) * a0_2))))).bind fun bt642 => (if 0 ≤ (wrap64 ((wrap64 ((Int.tmod (wrap64 (a2)) a0_2) * a0_1)) + (Int.tmod (wrap64 (a1)) a0_1))) then (if (wrap64 ((wrap64 ((Int.tmod (wrap64 (a2)) a0_2) * a0_1)) + (Int.tmod (wrap64 (a1)) a0_1))) < (l0_3.length : Int) then (if (bt642.1 == ((rd_T23 l0_3 (wrap64 ((wrap64 ((Int.tmod (wrap64 (a2)) a0_2) * a0_1)) + (Int.tmod (wrap64 (a1)) a0_1)))).f0) && (bt642.2.1 == ((rd_T23 l0_3 (wrap64 ((wrap64 ((Int.tmod (wrap64 (a2)) a0_2) * a0_1)) + (Int.tmod (wrap64 (a1)) a0_1)))).f1) && (bt642.2.2.1 == ((rd_T23 l0_3 (wrap64 ((wrap64 ((Int.tmod (wrap64 (a2)) a0_2) * a0_1)) + (Int.tmod (wrap64 (a1)) a0_1)))).f2) && (bt642.2.2.2 == ((rd_T23 l0_3 (wrap64 ((wrap64 ((Int.tmod (wrap64 (a2)) a0_2) * a0_1)) + (Int.tmod (wrap64 (a1)) a0_1)))).f3))))) = true then ((celluloidlaw20_at.f kj17 a0_0 a0_1 a0_2 l0_3 65 (wrap64 ((Int.tmod (wrap64 (a1)) a0_1) + (wrap64 ((wrap64 (a3)) * a0_1)))) (wrap64 ((Int.tmod (wrap64 (a2)) a0_2) + (wrap64 ((wrap64 (a4)) * a0_2))))).bind fun bt647 => (if (bt647.1 == ((rd_T23 l0_3 (wrap64 ((wrap64 ((ji33) * a0_1)) + (mn (ji34) (wrap64 (a0_1 - 1)))))).f0) && (bt647.2.1 == ((rd_T23 l0_3 (wrap64 ((wrap64 ((ji33) * a0_1)) + (mn (ji34) (wrap64 (a0_1 - 1)))))).f1) && (bt647.2.2.1 == ((rd_T23 l0_3 (wrap64 ((wrap64 ((ji33) * a0_1)) + (mn (ji34) (wrap64 (a0_1 - 1)))))).f2) && (bt647.2.2.2 == ((rd_T23 l0_3 (wrap64 ((wrap64 ((ji33) * a0_1)) + (mn (ji34) (wrap64 (a0_1 - 1)))))).f3))))) = true then ((celluloidlaw20_awake.f kj17).bind fun t651 => (some t651)) else (some false))) else (some false)) else (none)) else (none))) else (none)) else (none)) = some r:=by first|(rw [hji34] at H;exact H)|(simp only [hji34] at H ⊢;exact H)
                  have hji34_ : (if (wrap64 ((Int.tmod (wrap64 (a1)) a0_1) + (wrap64 ((wrap64 (a3)) * a0_1)))) < 0 then 0 else (wrap64 ((Int.tmod (wrap64 (a1)) a0_1) + (wrap64 ((wrap64 (a3)) * a0_1))))) = ji34:=hji34;obtain ⟨ji35,hji35⟩ : ∃ j_ : Int,(mn (ji34) (wrap64 (a0_1 - 1))) = j_:=⟨_,rfl⟩
                  replace H : (if 0 ≤ (wrap64 ((wrap64 ((ji33) * a0_1)) + (ji35))) then (if (wrap64 ((wrap64 ((ji33) * a0_1)) + (ji35))) < (l0_3.length : Int) then ((celluloidlaw20_at.f kj17 a0_0 a0_1 a0_2 l0_3 64 (wrap64 ((Int.tmod (wrap64 (a1)) a0_1) + (wrap64 ((wrap64 (a3)) * a0_1)))) (wrap64 ((Int.tmod (wrap64 (a2)) a0_2) + (wrap64 ((wrap64 (a4)) * a0_2))))).bind fun bt642 => (if 0 ≤ (wrap64 ((wrap64 ((Int.tmod (wrap64 (a2)) a0_2) * a0_1)) + (Int.tmod (wrap64 (a1)) a0_1))) then (if (wrap64 ((wrap64 ((Int.tmod (wrap64 (a2)) a0_2) * a0_1)) + (Int.tmod (wrap64 (a1)) a0_1))) < (l0_3.length : Int) then (if (bt642.1 == ((rd_T23 l0_3 (wrap64 ((wrap64 ((Int.tmod (wrap64 (a2)) a0_2) * a0_1)) + (Int.tmod (wrap64 (a1)) a0_1)))).f0) && (bt642.2.1 == ((rd_T23 l0_3 (wrap64 ((wrap64 ((Int.tmod (wrap64 (a2)) a0_2) * a0_1)) + (Int.tmod (wrap64 (a1)) a0_1)))).f1) && (bt642.2.2.1 == ((rd_T23 l0_3 (wrap64 ((wrap64 ((Int.tmod (wrap64 (a2)) a0_2) * a0_1)) + (Int.tmod (wrap64 (a1)) a0_1)))).f2) && (bt642.2.2.2 == ((rd_T23 l0_3 (wrap64 ((wrap64 ((Int.tmod (wrap64 (a2)) a0_2) * a0_1)) + (Int.tmod (wrap64 (a1)) a0_1)))).f3))))) = true then ((celluloidlaw20_at.f kj17 a0_0 a0_1 a0_2 l0_3 65 (wrap64 ((Int.tmod (wrap64 (a1)) a0_1) + (wrap64 ((wrap64 (a3)) * a0_1)))) (wrap64 ((Int.tmod (wrap64 (a2)) a0_2) + (wrap64 ((wrap64 (a4)) * a0_2))))).bind fun bt647 => (if (bt647.1 == ((rd_T23 l0_3 (wrap64 ((wrap64 ((ji33) * a0_1)) + (ji35)))).f0) && (bt647.2.1 == ((rd_T23 l0_3 (wrap64 ((wrap64 ((ji33) * a0_1)) + (ji35)))).f1) && (bt647.2.2.1 == ((rd_T23 l0_3 (wrap64 ((wrap64 ((ji33) * a0_1)) + (ji35)))).f2) && (bt647.2.2.2 == ((rd_T23 l0_3 (wrap64 ((wrap64 ((ji33) * a0_1)) + (ji35)))).f3))))) = true then ((celluloidlaw20_awake.f kj17).bind fun t651 => (some t651)) else (some false))) else (some false)) else (none)) else (none))) else (none)) else (none)) = some r:=by first|(rw [hji35] at H;exact H)|(simp only [hji35] at H ⊢;exact H)
                  have hji35_ : (if (wrap64 (a0_1 - 1)) < (ji34) then (wrap64 (a0_1 - 1)) else (ji34)) = ji35:=hji35;obtain ⟨ji36,hji36⟩ : ∃ j_ : Int,(wrap64 ((wrap64 ((ji33) * a0_1)) + (ji35))) = j_:=⟨_,rfl⟩
                  replace H : (if 0 ≤ (ji36) then (if (ji36) < (l0_3.length : Int) then ((celluloidlaw20_at.f kj17 a0_0 a0_1 a0_2 l0_3 64 (wrap64 ((Int.tmod (wrap64 (a1)) a0_1) + (wrap64 ((wrap64 (a3)) * a0_1)))) (wrap64 ((Int.tmod (wrap64 (a2)) a0_2) + (wrap64 ((wrap64 (a4)) * a0_2))))).bind fun bt642 => (if 0 ≤ (wrap64 ((wrap64 ((Int.tmod (wrap64 (a2)) a0_2) * a0_1)) + (Int.tmod (wrap64 (a1)) a0_1))) then (if (wrap64 ((wrap64 ((Int.tmod (wrap64 (a2)) a0_2) * a0_1)) + (Int.tmod (wrap64 (a1)) a0_1))) < (l0_3.length : Int) then (if (bt642.1 == ((rd_T23 l0_3 (wrap64 ((wrap64 ((Int.tmod (wrap64 (a2)) a0_2) * a0_1)) + (Int.tmod (wrap64 (a1)) a0_1)))).f0) && (bt642.2.1 == ((rd_T23 l0_3 (wrap64 ((wrap64 ((Int.tmod (wrap64 (a2)) a0_2) * a0_1)) + (Int.tmod (wrap64 (a1)) a0_1)))).f1) && (bt642.2.2.1 == ((rd_T23 l0_3 (wrap64 ((wrap64 ((Int.tmod (wrap64 (a2)) a0_2) * a0_1)) + (Int.tmod (wrap64 (a1)) a0_1)))).f2) && (bt642.2.2.2 == ((rd_T23 l0_3 (wrap64 ((wrap64 ((Int.tmod (wrap64 (a2)) a0_2) * a0_1)) + (Int.tmod (wrap64 (a1)) a0_1)))).f3))))) = true then ((celluloidlaw20_at.f kj17 a0_0 a0_1 a0_2 l0_3 65 (wrap64 ((Int.tmod (wrap64 (a1)) a0_1) + (wrap64 ((wrap64 (a3)) * a0_1)))) (wrap64 ((Int.tmod (wrap64 (a2)) a0_2) + (wrap64 ((wrap64 (a4)) * a0_2))))).bind fun bt647 => (if (bt647.1 == ((rd_T23 l0_3 (ji36)).f0) && (bt647.2.1 == ((rd_T23 l0_3 (ji36)).f1) && (bt647.2.2.1 == ((rd_T23 l0_3 (ji36)).f2) && (bt647.2.2.2 == ((rd_T23 l0_3 (ji36)).f3))))) = true then ((celluloidlaw20_awake.f kj17).bind fun t651 => (some t651)) else (some false))) else (some false)) else (none)) else (none))) else (none)) else (none)) = some r:=by first|(rw [hji36] at H;exact H)|(simp only [hji36] at H ⊢;exact H)
                  have hji36w : (IntKind.i64.wrap ((wrap64 ((ji33) * a0_1)) + (ji35))) = ji36:=(i64_w _).trans hji36
                  by_cases c37 : 0 ≤ (ji36)
                  · rw [if_pos c37] at H
                    have c37b0 : decide (0 ≤ (ji36)) = true:=decide_eq_true c37;clear c37
                    by_cases c38 : (ji36) < (l0_3.length : Int)
                    · rw [if_pos c38] at H
                      have c38b0 : decide ((ji36) < (l0_3.length : Int)) = true:=decide_eq_true c38;clear c38;replace H:=Option.bind_eq_some_iff.mp H;obtain ⟨⟨t642,t643,t644,t645⟩,A390,H⟩:=H;replace H : (if 0 ≤ (wrap64 ((wrap64 ((Int.tmod (wrap64 (a2)) a0_2) * a0_1)) + (Int.tmod (wrap64 (a1)) a0_1))) then (if (wrap64 ((wrap64 ((Int.tmod (wrap64 (a2)) a0_2) * a0_1)) + (Int.tmod (wrap64 (a1)) a0_1))) < (l0_3.length : Int) then (if (t642 == ((rd_T23 l0_3 (wrap64 ((wrap64 ((Int.tmod (wrap64 (a2)) a0_2) * a0_1)) + (Int.tmod (wrap64 (a1)) a0_1)))).f0) && (t643 == ((rd_T23 l0_3 (wrap64 ((wrap64 ((Int.tmod (wrap64 (a2)) a0_2) * a0_1)) + (Int.tmod (wrap64 (a1)) a0_1)))).f1) && (t644 == ((rd_T23 l0_3 (wrap64 ((wrap64 ((Int.tmod (wrap64 (a2)) a0_2) * a0_1)) + (Int.tmod (wrap64 (a1)) a0_1)))).f2) && (t645 == ((rd_T23 l0_3 (wrap64 ((wrap64 ((Int.tmod (wrap64 (a2)) a0_2) * a0_1)) + (Int.tmod (wrap64 (a1)) a0_1)))).f3))))) = true then ((celluloidlaw20_at.f kj17 a0_0 a0_1 a0_2 l0_3 65 (wrap64 ((Int.tmod (wrap64 (a1)) a0_1) + (wrap64 ((wrap64 (a3)) * a0_1)))) (wrap64 ((Int.tmod (wrap64 (a2)) a0_2) + (wrap64 ((wrap64 (a4)) * a0_2))))).bind fun bt647 => (if (bt647.1 == ((rd_T23 l0_3 (ji36)).f0) && (bt647.2.1 == ((rd_T23 l0_3 (ji36)).f1) && (bt647.2.2.1 == ((rd_T23 l0_3 (ji36)).f2) && (bt647.2.2.2 == ((rd_T23 l0_3 (ji36)).f3))))) = true then ((celluloidlaw20_awake.f kj17).bind fun t651 => (some t651)) else (some false))) else (some false)) else (none)) else (none)) = some r:=H;have A39:=am A390;clear A390;obtain ⟨ji40,hji40⟩ : ∃ j_ : Int,(wrap64 ((wrap64 ((Int.tmod (wrap64 (a2)) a0_2) * a0_1)) + (Int.tmod (wrap64 (a1)) a0_1))) = j_:=⟨_,rfl⟩
                      replace H : (if 0 ≤ (ji40) then (if (ji40) < (l0_3.length : Int) then (if (t642 == ((rd_T23 l0_3 (ji40)).f0) && (t643 == ((rd_T23 l0_3 (ji40)).f1) && (t644 == ((rd_T23 l0_3 (ji40)).f2) && (t645 == ((rd_T23 l0_3 (ji40)).f3))))) = true then ((celluloidlaw20_at.f kj17 a0_0 a0_1 a0_2 l0_3 65 (wrap64 ((Int.tmod (wrap64 (a1)) a0_1) + (wrap64 ((wrap64 (a3)) * a0_1)))) (wrap64 ((Int.tmod (wrap64 (a2)) a0_2) + (wrap64 ((wrap64 (a4)) * a0_2))))).bind fun bt647 => (if (bt647.1 == ((rd_T23 l0_3 (ji36)).f0) && (bt647.2.1 == ((rd_T23 l0_3 (ji36)).f1) && (bt647.2.2.1 == ((rd_T23 l0_3 (ji36)).f2) && (bt647.2.2.2 == ((rd_T23 l0_3 (ji36)).f3))))) = true then ((celluloidlaw20_awake.f kj17).bind fun t651 => (some t651)) else (some false))) else (some false)) else (none)) else (none)) = some r:=by first|(rw [hji40] at H;exact H)|(simp only [hji40] at H ⊢;exact H)
                      (try rw [hji40] at A39);have hji40w : (IntKind.i64.wrap ((wrap64 ((Int.tmod (wrap64 (a2)) a0_2) * a0_1)) + (Int.tmod (wrap64 (a1)) a0_1))) = ji40:=(i64_w _).trans hji40
                      by_cases c41 : 0 ≤ (ji40)
                      · rw [if_pos c41] at H
                        have c41b0 : decide (0 ≤ (ji40)) = true:=decide_eq_true c41;clear c41
                        by_cases c42 : (ji40) < (l0_3.length : Int)
                        · rw [if_pos c42] at H
                          have c42b0 : decide ((ji40) < (l0_3.length : Int)) = true:=decide_eq_true c42;clear c42
                          by_cases c43 : (t642 == ((rd_T23 l0_3 (ji40)).f0) && (t643 == ((rd_T23 l0_3 (ji40)).f1) && (t644 == ((rd_T23 l0_3 (ji40)).f2) && (t645 == ((rd_T23 l0_3 (ji40)).f3))))) = true
                          · rw [if_pos c43] at H
                            have c43b0 : (t642 == ((rd_T23 l0_3 (ji40)).f0) && (t643 == ((rd_T23 l0_3 (ji40)).f1) && (t644 == ((rd_T23 l0_3 (ji40)).f2) && (t645 == ((rd_T23 l0_3 (ji40)).f3))))) = true:=c43
                            (try (have c43b1 : decide (t642 = ((rd_T23 l0_3 (ji40)).f0) && (t643 == ((rd_T23 l0_3 (ji40)).f1) && (t644 == ((rd_T23 l0_3 (ji40)).f2) && (t645 == ((rd_T23 l0_3 (ji40)).f3))))) = true:=by simpa using c43))
                            (try (have c43b2 : (t642 == ((rd_T23 l0_3 (ji40)).f0) && (t643 == ((rd_T23 l0_3 (ji40)).f1) && (t644 == ((rd_T23 l0_3 (ji40)).f2) && (t645 == ((rd_T23 l0_3 (ji40)).f3))))) = true:=by simpa using c43))
                            clear c43;replace H:=Option.bind_eq_some_iff.mp H;obtain ⟨⟨t647,t648,t649,t650⟩,A440,H⟩:=H;replace H : (if (t647 == ((rd_T23 l0_3 (ji36)).f0) && (t648 == ((rd_T23 l0_3 (ji36)).f1) && (t649 == ((rd_T23 l0_3 (ji36)).f2) && (t650 == ((rd_T23 l0_3 (ji36)).f3))))) = true then ((celluloidlaw20_awake.f kj17).bind fun t651 => (some t651)) else (some false)) = some r:=H;have A44:=am A440;clear A440
                            by_cases c45 : (t647 == ((rd_T23 l0_3 (ji36)).f0) && (t648 == ((rd_T23 l0_3 (ji36)).f1) && (t649 == ((rd_T23 l0_3 (ji36)).f2) && (t650 == ((rd_T23 l0_3 (ji36)).f3))))) = true
                            · rw [if_pos c45] at H
                              have c45b0 : (t647 == ((rd_T23 l0_3 (ji36)).f0) && (t648 == ((rd_T23 l0_3 (ji36)).f1) && (t649 == ((rd_T23 l0_3 (ji36)).f2) && (t650 == ((rd_T23 l0_3 (ji36)).f3))))) = true:=c45
                              (try (have c45b1 : decide (t647 = ((rd_T23 l0_3 (ji36)).f0) && (t648 == ((rd_T23 l0_3 (ji36)).f1) && (t649 == ((rd_T23 l0_3 (ji36)).f2) && (t650 == ((rd_T23 l0_3 (ji36)).f3))))) = true:=by simpa using c45))
                              (try (have c45b2 : (t647 == ((rd_T23 l0_3 (ji36)).f0) && (t648 == ((rd_T23 l0_3 (ji36)).f1) && (t649 == ((rd_T23 l0_3 (ji36)).f2) && (t650 == ((rd_T23 l0_3 (ji36)).f3))))) = true:=by simpa using c45))
                              clear c45;replace H:=Option.bind_eq_some_iff.mp H;obtain ⟨t651,A460,H⟩:=H;replace H : (some t651) = some r:=H;have A46:=am A460;clear A460;obtain rfl:=Option.some.inj H
                              try go_wp2
                              replace BK627:=am (bd BK627.out);replace HB:=am (sd HB.out);refine start_ (n:=16) (S:=fun w' => w'.cell? ⟨gb627,0,none⟩ = some (.int .i64 a0_0) ∧ w'.cell? ⟨gb627,1,none⟩ = some (.int .i64 a0_1) ∧ w'.cell? ⟨gb627,2,none⟩ = some (.int .i64 a0_2) ∧ w'.cell? ⟨gb627,3,none⟩ = some (.slice A0_3 l0_3.length c0_3)) (ds:=[]) #[false,false,false,false,false,false,false,false,false,false,false,false,false,false,false,false] (by kernel_rfl) rfl rfl ⟨(bc BK627.out 0).trans rfl,(bc BK627.out 1).trans rfl,(bc BK627.out 2).trans rfl,(bc BK627.out 3).trans rfl⟩ (fun hHeld => ?_);refine with_tabW celluloidlaw20_PaintTiles.tab6 celluloidlaw20_PaintTiles.bits6 (fun HT_ HW_ => ?_);generalize wc.drew = w47 at BK627 HB hHeld ⊢;refine pure_ (i:=0) (N:=some 68) (v:=?_) (a':=?_) #[true,false,false,false,false,false,false,false,false,false,false,false,false,false,false,false] rfl rfl (any_of HT_.out (by kernel_rfl)) (fun _ _ _ h => h) (Or.inl ⟨by rfl,?_⟩) ?_ ?_
                              rotate_left
                              · intro w'
                                go_simp
                                with_reducible rfl
                              rotate_left
                              · simp only [Act.put,q1,q2,q3,i64_w,i32_w]
                                rfl
                              refine pure_ (i:=1) (N:=some 69) (v:=?_) (a':=?_) #[true,true,false,false,false,false,false,false,false,false,false,false,false,false,false,false] rfl rfl (any_of HT_.out (by kernel_rfl)) (fun _ _ _ h => h) (Or.inl ⟨by rfl,?_⟩) ?_ ?_
                              rotate_left
                              · intro w'
                                go_simp
                                with_reducible rfl
                              rotate_left
                              · simp only [Act.put,q1,q2,q3,i64_w,i32_w]
                                rfl
                              refine pure_ (i:=2) (N:=some 70) (v:=?_) (a':=?_) #[true,true,true,false,false,false,false,false,false,false,false,false,false,false,false,false] rfl rfl (any_of HT_.out (by kernel_rfl)) (fun _ _ _ h => h) (Or.inl ⟨by rfl,?_⟩) ?_ ?_
                              rotate_left
                              · intro w'
                                go_simp
                                with_reducible rfl
                              rotate_left
                              · simp only [Act.put,q1,q2,q3,i64_w,i32_w]
                                rfl
                              refine pure_ (i:=3) (N:=some 71) (v:=?_) (a':=?_) #[true,true,true,true,false,false,false,false,false,false,false,false,false,false,false,false] rfl rfl (any_of HT_.out (by kernel_rfl)) (fun _ _ _ h => h) (Or.inl ⟨by rfl,?_⟩) ?_ ?_
                              rotate_left
                              · intro w'
                                go_simp
                                with_reducible rfl
                              rotate_left
                              · simp only [Act.put,q1,q2,q3,i64_w,i32_w]
                                rfl
                              refine pure_ (i:=7) (N:=some 75) (v:=?_) (a':=?_) #[true,true,true,true,false,false,false,true,false,false,false,false,false,false,false,false] rfl rfl (any_of HT_.out (by kernel_rfl)) (fun _ _ _ h => h) (Or.inl ⟨by rfl,?_⟩) ?_ ?_
                              rotate_left
                              · intro w'
                                go_simp
                                with_reducible rfl
                              rotate_left
                              · simp only [Act.put,q1,q2,q3,i64_w,i32_w]
                                rfl
                              refine pure_ (i:=8) (N:=some 76) (v:=?_) (a':=?_) #[true,true,true,true,false,false,false,true,true,false,false,false,false,false,false,false] rfl rfl (any_of HT_.out (by kernel_rfl)) (fun _ _ _ h => h) (Or.inl ⟨by rfl,?_⟩) ?_ ?_
                              rotate_left
                              · intro w'
                                go_simp
                                with_reducible rfl
                              rotate_left
                              · simp only [Act.put,q1,q2,q3,i64_w,i32_w]
                                rfl
                              refine pure_ (i:=9) (N:=some 77) (v:=?_) (a':=?_) #[true,true,true,true,false,false,false,true,true,true,false,false,false,false,false,false] rfl rfl (any_of HT_.out (by kernel_rfl)) (fun _ _ _ h => h) (Or.inl ⟨by rfl,?_⟩) ?_ ?_
                              rotate_left
                              · intro w'
                                go_simp
                                with_reducible rfl
                              rotate_left
                              · simp only [Act.put,q1,q2,q3,i64_w,i32_w]
                                rfl
                              refine pure_ (i:=10) (N:=some 78) (v:=?_) (a':=?_) #[true,true,true,true,false,false,false,true,true,true,true,false,false,false,false,false] rfl rfl (any_of HT_.out (by kernel_rfl)) (fun _ _ _ h => h) (Or.inl ⟨by rfl,?_⟩) ?_ ?_
                              rotate_left
                              · intro w'
                                go_simp
                                with_reducible rfl
                              rotate_left
                              · simp only [Act.put,q1,q2,q3,i64_w,i32_w]
                                rfl
                              refine take_ (i:=4) (N:=some 72) (v:=?_) (a':=?_) #[true,true,true,true,true,false,false,true,true,true,true,false,false,false,false,false] rfl rfl (take_ofW HT_.out HW_.out (by kernel_rfl)) (fun _ _ _ h => h) (Or.inl ⟨by rfl,?_⟩) hHeld ?_ ?_
                              rotate_left
                              · rintro w' ⟨s0,s1,s2,s3⟩
                                go_simp
                                with_reducible rfl
                              rotate_left
                              · simp only [Act.put,q1,q2,q3,i64_w,i32_w]
                                rfl
                              refine pure_ (i:=5) (N:=some 73) (v:=?_) (a':=?_) #[true,true,true,true,true,true,false,true,true,true,true,false,false,false,false,false] rfl rfl (any_of HT_.out (by kernel_rfl)) (fun _ _ _ h => h) (Or.inl ⟨by rfl,?_⟩) ?_ ?_
                              rotate_left
                              · intro w'
                                go_simp
                                with_reducible rfl
                              rotate_left
                              · simp only [Act.put,q1,q2,q3,i64_w,i32_w]
                                rfl
                              refine pure_ (i:=6) (N:=some 74) (v:=?_) (a':=?_) #[true,true,true,true,true,true,true,true,true,true,true,false,false,false,false,false] rfl rfl (any_of HT_.out (by kernel_rfl)) (fun _ _ _ h => h) (Or.inl ⟨by rfl,?_⟩) ?_ ?_
                              rotate_left
                              · intro w'
                                go_simp
                                with_reducible rfl
                              rotate_left
                              · simp only [Act.put,q1,q2,q3,i64_w,i32_w]
                                rfl
                              refine pure_ (i:=14) (N:=some 13) (v:=?_) (a':=?_) #[true,true,true,true,true,true,true,true,true,true,true,false,false,false,true,false] rfl rfl (any_of HT_.out (by kernel_rfl)) (fun _ _ _ h => h) (Or.inl ⟨by rfl,?_⟩) ?_ ?_
                              rotate_left
                              · intro w'
                                go_simp
                                with_reducible rfl
                              rotate_left
                              · simp only [Act.put,q1,q2,q3,i64_w,i32_w]
                                rfl
                              refine take_ (i:=11) (N:=some 79) (v:=?_) (a':=?_) #[true,true,true,true,true,true,true,true,true,true,true,true,false,false,true,false] rfl rfl (take_ofW HT_.out HW_.out (by kernel_rfl)) (fun _ _ _ h => h) (Or.inl ⟨by rfl,?_⟩) hHeld ?_ ?_
                              rotate_left
                              · rintro w' ⟨s0,s1,s2,s3⟩
                                go_simp
                                with_reducible rfl
                              rotate_left
                              · simp only [Act.put,q1,q2,q3,i64_w,i32_w]
                                rfl
                              refine pure_ (i:=12) (N:=some 80) (v:=?_) (a':=?_) #[true,true,true,true,true,true,true,true,true,true,true,true,true,false,true,false] rfl rfl (any_of HT_.out (by kernel_rfl)) (fun _ _ _ h => h) (Or.inl ⟨by rfl,?_⟩) ?_ ?_
                              rotate_left
                              · intro w'
                                go_simp
                                with_reducible rfl
                              rotate_left
                              · simp only [Act.put,q1,q2,q3,i64_w,i32_w]
                                rfl
                              refine pure_ (i:=13) (N:=some 81) (v:=?_) (a':=?_) #[true,true,true,true,true,true,true,true,true,true,true,true,true,true,true,false] rfl rfl (any_of HT_.out (by kernel_rfl)) (fun _ _ _ h => h) (Or.inl ⟨by rfl,?_⟩) ?_ ?_
                              rotate_left
                              · intro w'
                                go_simp
                                with_reducible rfl
                              rotate_left
                              · simp only [Act.put,q1,q2,q3,i64_w,i32_w]
                                rfl
                              refine pure_ (i:=15) (N:=some 14) (v:=?_) (a':=?_) #[true,true,true,true,true,true,true,true,true,true,true,true,true,true,true,true] rfl rfl (any_of HT_.out (by kernel_rfl)) (fun _ _ _ h => h) (Or.inl ⟨by rfl,?_⟩) ?_ ?_
                              rotate_left
                              · intro w'
                                go_simp
                                with_reducible rfl
                              rotate_left
                              · simp only [Act.put,q1,q2,q3,i64_w,i32_w]
                                rfl
                              refine done_ (done_of HT_.out (by kernel_rfl)) ?_;obtain ⟨hcz48_0,hcz48_1,hcz48_2,hcz48_3⟩:=cq4 BK627.out;obtain ⟨hfz48_0,hfz48_1,hfz48_2,hfz48_3⟩:=fq4 BK627.out;have p640 : 0 ≤ ((ji36) : Int):=of_decide_eq_true (by first|(with_reducible assumption)|assumption);have q640 : (ji36) < (l0_3.length : Int):=of_decide_eq_true (by first|(with_reducible assumption)|assumption);obtain ⟨ad640,e640,hx640_0,hx640_1,hx640_2,hx640_3⟩:=at_T23 HR0_3.out (ji36) p640 q640
                              cases e640
                              replace hx640_0:=(HB.out.cell (World.block_lt_of_cell? w _ hx640_0)).trans hx640_0;replace hx640_1:=(HB.out.cell (World.block_lt_of_cell? w _ hx640_1)).trans hx640_1;replace hx640_2:=(HB.out.cell (World.block_lt_of_cell? w _ hx640_2)).trans hx640_2;replace hx640_3:=(HB.out.cell (World.block_lt_of_cell? w _ hx640_3)).trans hx640_3;replace p640:=eq_true p640;replace q640:=eq_true q640
                              try go_wp2_with (first|((with_reducible refine gate_dst (N:=15) rfl ?_);refine box_event ?hg (N:=15) ?hd (cs:=#[.int .i64 0,.int .i64 0,.int .i64 0,.int .i64 0]) (t:=23) ?hr ?_;(case hd => rfl);(case hg => rfl);(case hr => first|(go_simp;done)|(go_simp;rfl));intro gb641 hg w49 hbox hb;have BK641:=am (hbox);obtain ⟨h1_,GW641⟩:=sg (by repeat (first|(with_reducible first|exact HB.out|apply sa|apply sn|apply sd|refine sx ?_ GE627.out)|exact HB.out)) hb hg;replace HB:=h1_;clear h1_;have GE641:=GW641;have NB627_641:=nb (by exact BK627.out) hg;have NB641_627:=ng (by exact BK627.out) hg;replace BK627:=am (bw (by exact BK627.out) hb);clear hb hbox hg;have hnb50:=NB641_627.out;have hnc50:=NB627_641.out;obtain ⟨hcz51_0,hcz51_1,hcz51_2,hcz51_3⟩:=cq4 BK641.out;obtain ⟨hfz51_0,hfz51_1,hfz51_2,hfz51_3⟩:=fq4 BK641.out))
                              have n0_ : Aside0 (((((w49.setCell ⟨gb641,0,none⟩ (.int .i64 ((rd_T23 l0_3 (ji36)).f0))).setCell ⟨gb641,1,none⟩ (.int .i64 ((rd_T23 l0_3 (ji36)).f1))).setCell ⟨gb641,2,none⟩ (.int .i64 ((rd_T23 l0_3 (ji36)).f2))).setCell ⟨gb641,3,none⟩ (.int .i64 ((rd_T23 l0_3 (ji36)).f3))).heap[gb627]? = some (.cells #[.int .i64 a0_0,.int .i64 a0_1,.int .i64 a0_2,.slice (some ad640) l0_3.length c0_3] 43 (0,0))):=⟨by (with_reducible repeat (first|refine bn ?_ _|refine bd ?_|refine ba ?_ _|refine bf ?_ NB627_641.out _));exact BK627.out⟩;have n1_ : Aside0 (((((w49.setCell ⟨gb641,0,none⟩ (.int .i64 ((rd_T23 l0_3 (ji36)).f0))).setCell ⟨gb641,1,none⟩ (.int .i64 ((rd_T23 l0_3 (ji36)).f1))).setCell ⟨gb641,2,none⟩ (.int .i64 ((rd_T23 l0_3 (ji36)).f2))).setCell ⟨gb641,3,none⟩ (.int .i64 ((rd_T23 l0_3 (ji36)).f3))).heap[gb641]? = some (.cells #[.int .i64 ((rd_T23 l0_3 (ji36)).f0),.int .i64 ((rd_T23 l0_3 (ji36)).f1),.int .i64 ((rd_T23 l0_3 (ji36)).f2),.int .i64 ((rd_T23 l0_3 (ji36)).f3)] 23 (0,0))):=⟨(bp (bp (bp (bp BK641.out 0 _ rfl) 1 _ rfl) 2 _ rfl) 3 _ rfl)⟩;have n2_ : Aside0 (Below w.heap.size w ((((w49.setCell ⟨gb641,0,none⟩ (.int .i64 ((rd_T23 l0_3 (ji36)).f0))).setCell ⟨gb641,1,none⟩ (.int .i64 ((rd_T23 l0_3 (ji36)).f1))).setCell ⟨gb641,2,none⟩ (.int .i64 ((rd_T23 l0_3 (ji36)).f2))).setCell ⟨gb641,3,none⟩ (.int .i64 ((rd_T23 l0_3 (ji36)).f3)))):=⟨by repeat (first|(with_reducible first|exact HB.out|apply sa|apply sn|apply sd|refine sy ?_ (by assumption))|exact HB.out)⟩;(try clear BK627);(try clear BK641);(try clear HB);generalize ((((w49.setCell ⟨gb641,0,none⟩ (.int .i64 ((rd_T23 l0_3 (ji36)).f0))).setCell ⟨gb641,1,none⟩ (.int .i64 ((rd_T23 l0_3 (ji36)).f1))).setCell ⟨gb641,2,none⟩ (.int .i64 ((rd_T23 l0_3 (ji36)).f2))).setCell ⟨gb641,3,none⟩ (.int .i64 ((rd_T23 l0_3 (ji36)).f3))) = w52 at n0_ n1_ n2_ ⊢;have BK627:=n0_;have BK641:=n1_;have HB:=n2_;clear n0_ n1_ n2_;replace BK627:=am (bd BK627.out);replace BK641:=am (bd BK641.out);replace HB:=am (sd HB.out);have p646 : 0 ≤ ((ji40) : Int):=of_decide_eq_true (by first|(with_reducible assumption)|assumption);have q646 : (ji40) < (l0_3.length : Int):=of_decide_eq_true (by first|(with_reducible assumption)|assumption);obtain ⟨ad646,e646,hx646_0,hx646_1,hx646_2,hx646_3⟩:=at_T23 HR0_3.out (ji40) p646 q646;have hw646_3:=hx646_3;have hw646_2:=hx646_2;have hw646_1:=hx646_1;have hw646_0:=hx646_0;obtain rfl : ad640 = ad646:=(by injection e646);replace hx646_0:=(HB.out.cell (World.block_lt_of_cell? w _ hx646_0)).trans hx646_0;replace hx646_1:=(HB.out.cell (World.block_lt_of_cell? w _ hx646_1)).trans hx646_1;replace hx646_2:=(HB.out.cell (World.block_lt_of_cell? w _ hx646_2)).trans hx646_2;replace hx646_3:=(HB.out.cell (World.block_lt_of_cell? w _ hx646_3)).trans hx646_3;replace p646:=eq_true p646;replace q646:=eq_true q646;refine start_ (n:=27) (S:=fun w' => w'.cell? ⟨gb627,0,none⟩ = some (.int .i64 a0_0) ∧ w'.cell? ⟨gb627,1,none⟩ = some (.int .i64 a0_1) ∧ w'.cell? ⟨gb627,2,none⟩ = some (.int .i64 a0_2) ∧ w'.cell? ⟨gb627,3,none⟩ = some (.slice (some ad640) l0_3.length c0_3) ∧ w'.cell? ⟨gb641,0,none⟩ = some (.int .i64 ((rd_T23 l0_3 (ji36)).f0)) ∧ w'.cell? ⟨gb641,1,none⟩ = some (.int .i64 ((rd_T23 l0_3 (ji36)).f1)) ∧ w'.cell? ⟨gb641,2,none⟩ = some (.int .i64 ((rd_T23 l0_3 (ji36)).f2)) ∧ w'.cell? ⟨gb641,3,none⟩ = some (.int .i64 ((rd_T23 l0_3 (ji36)).f3)) ∧ w'.cell? (ad640.add (((ji40)).toNat * 4)) = some (.int .i64 ((rd_T23 l0_3 (ji40)).f0)) ∧ w'.cell? ⟨(ad640.add (((ji40)).toNat * 4)).block,(ad640.add (((ji40)).toNat * 4)).off + 1,none⟩ = some (.int .i64 ((rd_T23 l0_3 (ji40)).f1)) ∧ w'.cell? ⟨(ad640.add (((ji40)).toNat * 4)).block,(ad640.add (((ji40)).toNat * 4)).off + 2,none⟩ = some (.int .i64 ((rd_T23 l0_3 (ji40)).f2)) ∧ w'.cell? ⟨(ad640.add (((ji40)).toNat * 4)).block,(ad640.add (((ji40)).toNat * 4)).off + 3,none⟩ = some (.int .i64 ((rd_T23 l0_3 (ji40)).f3))) (ds:=[]) #[false,false,false,false,false,false,false,false,false,false,false,false,false,false,false,false,false,false,false,false,false,false,false,false,false,false,false] (by kernel_rfl) rfl rfl ⟨(bc BK627.out 0).trans rfl,(bc BK627.out 1).trans rfl,(bc BK627.out 2).trans rfl,(bc BK627.out 3).trans rfl,(bc BK641.out 0).trans rfl,(bc BK641.out 1).trans rfl,(bc BK641.out 2).trans rfl,(bc BK641.out 3).trans rfl,((HB.out.cell (World.block_lt_of_cell? w _ hw646_0)).trans hw646_0),((HB.out.cell (World.block_lt_of_cell? w _ hw646_1)).trans hw646_1),((HB.out.cell (World.block_lt_of_cell? w _ hw646_2)).trans hw646_2),((HB.out.cell (World.block_lt_of_cell? w _ hw646_3)).trans hw646_3)⟩ (fun hHeld => ?_);refine with_tabW celluloidlaw20_PaintTiles.tab8 celluloidlaw20_PaintTiles.bits8 (fun HT_ HW_ => ?_);generalize w52.drew = w53 at BK627 BK641 HB hx646_0 hx646_1 hx646_2 hx646_3 hHeld ⊢;refine pure_ (i:=1) (N:=some 103) (v:=?_) (a':=?_) #[false,true,false,false,false,false,false,false,false,false,false,false,false,false,false,false,false,false,false,false,false,false,false,false,false,false,false] rfl rfl (any_of HT_.out (by kernel_rfl)) (fun _ _ _ h => h) (Or.inl ⟨by rfl,?_⟩) ?_ ?_
                              rotate_left
                              · intro w'
                                go_simp
                                with_reducible rfl
                              rotate_left
                              · simp only [Act.put,q1,q2,q3,i64_w,i32_w]
                                rfl
                              refine pure_ (i:=2) (N:=some 104) (v:=?_) (a':=?_) #[false,true,true,false,false,false,false,false,false,false,false,false,false,false,false,false,false,false,false,false,false,false,false,false,false,false,false] rfl rfl (any_of HT_.out (by kernel_rfl)) (fun _ _ _ h => h) (Or.inl ⟨by rfl,?_⟩) ?_ ?_
                              rotate_left
                              · intro w'
                                go_simp
                                with_reducible rfl
                              rotate_left
                              · simp only [Act.put,q1,q2,q3,i64_w,i32_w]
                                rfl
                              refine pure_ (i:=4) (N:=some 106) (v:=?_) (a':=?_) #[false,true,true,false,true,false,false,false,false,false,false,false,false,false,false,false,false,false,false,false,false,false,false,false,false,false,false] rfl rfl (any_of HT_.out (by kernel_rfl)) (fun _ _ _ h => h) (Or.inl ⟨by rfl,?_⟩) ?_ ?_
                              rotate_left
                              · intro w'
                                go_simp
                                with_reducible rfl
                              rotate_left
                              · simp only [Act.put,q1,q2,q3,i64_w,i32_w]
                                rfl
                              refine pure_ (i:=6) (N:=some 108) (v:=?_) (a':=?_) #[false,true,true,false,true,false,true,false,false,false,false,false,false,false,false,false,false,false,false,false,false,false,false,false,false,false,false] rfl rfl (any_of HT_.out (by kernel_rfl)) (fun _ _ _ h => h) (Or.inl ⟨by rfl,?_⟩) ?_ ?_
                              rotate_left
                              · intro w'
                                go_simp
                                with_reducible rfl
                              rotate_left
                              · simp only [Act.put,q1,q2,q3,i64_w,i32_w]
                                rfl
                              refine pure_ (i:=7) (N:=some 109) (v:=?_) (a':=?_) #[false,true,true,false,true,false,true,true,false,false,false,false,false,false,false,false,false,false,false,false,false,false,false,false,false,false,false] rfl rfl (any_of HT_.out (by kernel_rfl)) (fun _ _ _ h => h) (Or.inl ⟨by rfl,?_⟩) ?_ ?_
                              rotate_left
                              · intro w'
                                go_simp
                                with_reducible rfl
                              rotate_left
                              · simp only [Act.put,q1,q2,q3,i64_w,i32_w]
                                rfl
                              refine pure_ (i:=10) (N:=some 112) (v:=?_) (a':=?_) #[false,true,true,false,true,false,true,true,false,false,true,false,false,false,false,false,false,false,false,false,false,false,false,false,false,false,false] rfl rfl (any_of HT_.out (by kernel_rfl)) (fun _ _ _ h => h) (Or.inl ⟨by rfl,?_⟩) ?_ ?_
                              rotate_left
                              · intro w'
                                go_simp
                                with_reducible rfl
                              rotate_left
                              · simp only [Act.put,q1,q2,q3,i64_w,i32_w]
                                rfl
                              refine take_ (i:=0) (N:=some 102) (v:=?_) (a':=?_) #[true,true,true,false,true,false,true,true,false,false,true,false,false,false,false,false,false,false,false,false,false,false,false,false,false,false,false] rfl rfl (take_ofW HT_.out HW_.out (by kernel_rfl)) (fun _ _ _ h => h) (Or.inl ⟨by rfl,?_⟩) hHeld ?_ ?_
                              rotate_left
                              · rintro w' ⟨s0,s1,s2,s3,s4,s5,s6,s7,s8,s9,s10,s11⟩
                                go_simp
                                with_reducible rfl
                              rotate_left
                              · simp only [Act.put,q1,q2,q3,i64_w,i32_w]
                                rfl
                              refine take_ (i:=5) (N:=some 107) (v:=?_) (a':=?_) #[true,true,true,false,true,true,true,true,false,false,true,false,false,false,false,false,false,false,false,false,false,false,false,false,false,false,false] rfl rfl (take_ofW HT_.out HW_.out (by kernel_rfl)) (fun _ _ _ h => h) (Or.inl ⟨by rfl,?_⟩) hHeld ?_ ?_
                              rotate_left
                              · rintro w' ⟨s0,s1,s2,s3,s4,s5,s6,s7,s8,s9,s10,s11⟩
                                go_simp
                                with_reducible rfl
                              rotate_left
                              · simp only [Act.put,q1,q2,q3,i64_w,i32_w]
                                rfl
                              refine take_ (i:=8) (N:=some 110) (v:=?_) (a':=?_) #[true,true,true,false,true,true,true,true,true,false,true,false,false,false,false,false,false,false,false,false,false,false,false,false,false,false,false] rfl rfl (take_ofW HT_.out HW_.out (by kernel_rfl)) (fun _ _ _ h => h) (Or.inl ⟨by rfl,?_⟩) hHeld ?_ ?_
                              rotate_left
                              · rintro w' ⟨s0,s1,s2,s3,s4,s5,s6,s7,s8,s9,s10,s11⟩
                                go_simp
                                with_reducible rfl
                              rotate_left
                              · simp only [Act.put,q1,q2,q3,i64_w,i32_w]
                                rfl
                              refine pure_ (i:=9) (N:=some 111) (v:=?_) (a':=?_) #[true,true,true,false,true,true,true,true,true,true,true,false,false,false,false,false,false,false,false,false,false,false,false,false,false,false,false] rfl rfl (any_of HT_.out (by kernel_rfl)) (fun _ _ _ h => h) (Or.inl ⟨by rfl,?_⟩) ?_ ?_
                              rotate_left
                              · intro w'
                                go_simp
                                with_reducible rfl
                              rotate_left
                              · simp only [Act.put,q1,q2,q3,i64_w,i32_w]
                                rfl
                              refine pure_ (i:=11) (N:=some 113) (v:=?_) (a':=?_) #[true,true,true,false,true,true,true,true,true,true,true,true,false,false,false,false,false,false,false,false,false,false,false,false,false,false,false] rfl rfl (any_of HT_.out (by kernel_rfl)) (fun _ _ _ h => h) (Or.inl ⟨by rfl,?_⟩) ?_ ?_
                              rotate_left
                              · intro w'
                                go_simp
                                with_reducible rfl
                              rotate_left
                              · simp only [Act.put,q1,q2,q3,i64_w,i32_w]
                                rfl
                              refine pure_ (i:=12) (N:=some 114) (v:=?_) (a':=?_) #[true,true,true,false,true,true,true,true,true,true,true,true,true,false,false,false,false,false,false,false,false,false,false,false,false,false,false] rfl rfl (any_of HT_.out (by kernel_rfl)) (fun _ _ _ h => h) (Or.inl ⟨by rfl,?_⟩) ?_ ?_
                              rotate_left
                              · intro w'
                                go_simp
                                with_reducible rfl
                              rotate_left
                              · simp only [Act.put,q1,q2,q3,i64_w,i32_w]
                                rfl
                              refine take_ (i:=13) (N:=some 115) (v:=?_) (a':=?_) #[true,true,true,false,true,true,true,true,true,true,true,true,true,true,false,false,false,false,false,false,false,false,false,false,false,false,false] rfl rfl (take_ofW HT_.out HW_.out (by kernel_rfl)) (fun _ _ _ h => h) (Or.inl ⟨by rfl,?_⟩) hHeld ?_ ?_
                              rotate_left
                              · rintro w' ⟨s0,s1,s2,s3,s4,s5,s6,s7,s8,s9,s10,s11⟩
                                go_simp
                                with_reducible rfl
                              rotate_left
                              · simp only [Act.put,q1,q2,q3,i64_w,i32_w]
                                rfl
                              refine one_ (i:=3) (N:=some 105) #[true,true,true,true,true,true,true,true,true,true,true,true,true,true,false,false,false,false,false,false,false,false,false,false,false,false,false] rfl rfl (one_of HT_.out (by kernel_rfl)) (by decide) (fun K hK => ?_);refine goes_ Try.func23 (by kernel_rfl) rfl #[.agg #[.int .i64 a0_0,.int .i64 a0_1,.int .i64 a0_2,.slice (some ad640) l0_3.length c0_3],.int .i64 64,.int .i64 (wrap64 ((Int.tmod (wrap64 (a1)) a0_1) + (wrap64 ((wrap64 (a3)) * a0_1)))),.int .i64 (wrap64 ((Int.tmod (wrap64 (a2)) a0_2) + (wrap64 ((wrap64 (a4)) * a0_2))))] (by rfl) rfl rfl (by (try simp only [List.map_toArray,List.map_cons,List.map_nil]);first|done|rfl|(simp only [List.length_drop,List.length_take];rfl)) ?_
                              with_reducible refine (celluloidlaw20_at.calls kj17 a0_0 a0_1 a0_2 (fun k_ => k_ < w.heap.size) _ _ l0_3 64 (wrap64 ((Int.tmod (wrap64 (a1)) a0_1) + (wrap64 ((wrap64 (a3)) * a0_1)))) (wrap64 ((Int.tmod (wrap64 (a2)) a0_2) + (wrap64 ((wrap64 (a4)) * a0_2)))) t642 t643 t644 t645 _ ?side1 A39.out).mono ?_
                              (case side1 => exact Kd.V_mk HC0_3.out (Kd.F_below (Kd.C_F k23_heap HR0_3.out) (by repeat (first|(with_reducible first|exact HB.out|apply sa|apply sn|apply sd|refine sy ?_ (by assumption))|exact HB.out))))
                              rintro e w54 ⟨rfl,hb⟩
                              refine ⟨_,rfl,?_⟩;replace BK627:=am (bw (by exact BK627.out) hb);replace BK641:=am (bw (by exact BK641.out) hb);replace HB:=am (ss (by repeat (first|(with_reducible first|exact HB.out|apply sa|apply sn|apply sd|refine sy ?_ (by assumption))|exact HB.out)) hb);(try clear hb);(try clear hb2);(try clear hk);(try clear hi);refine hK.out _ _ ⟨(bc BK627.out 0).trans rfl,(bc BK627.out 1).trans rfl,(bc BK627.out 2).trans rfl,(bc BK627.out 3).trans rfl,(bc BK641.out 0).trans rfl,(bc BK641.out 1).trans rfl,(bc BK641.out 2).trans rfl,(bc BK641.out 3).trans rfl,((HB.out.cell (World.block_lt_of_cell? w _ hw646_0)).trans hw646_0),((HB.out.cell (World.block_lt_of_cell? w _ hw646_1)).trans hw646_1),((HB.out.cell (World.block_lt_of_cell? w _ hw646_2)).trans hw646_2),((HB.out.cell (World.block_lt_of_cell? w _ hw646_3)).trans hw646_3)⟩ (fun hHeld => ?_);clear hK K;refine norm_ (a':=?_) ?_ ?_
                              rotate_left
                              · show Act.put _ (some 105) _ = _
                                simp only [Act.put,q1,q2,q3,i64_w,i32_w]
                                rfl
                              refine pure_ (i:=14) (N:=some 116) (v:=?_) (a':=?_) #[true,true,true,true,true,true,true,true,true,true,true,true,true,true,true,false,false,false,false,false,false,false,false,false,false,false,false] rfl rfl (any_of HT_.out (by kernel_rfl)) (fun _ _ _ h => h) (Or.inl ⟨by rfl,?_⟩) ?_ ?_
                              rotate_left
                              · intro w'
                                go_simp
                                with_reducible rfl
                              rotate_left
                              · simp only [Act.put,q1,q2,q3,i64_w,i32_w]
                                rfl
                              refine pure_ (i:=15) (N:=some 117) (v:=?_) (a':=?_) #[true,true,true,true,true,true,true,true,true,true,true,true,true,true,true,true,false,false,false,false,false,false,false,false,false,false,false] rfl rfl (any_of HT_.out (by kernel_rfl)) (fun _ _ _ h => h) (Or.inl ⟨by rfl,?_⟩) ?_ ?_
                              rotate_left
                              · intro w'
                                go_simp
                                with_reducible rfl
                              rotate_left
                              · simp only [Act.put,q1,q2,q3,i64_w,i32_w]
                                rfl
                              refine pure_ (i:=17) (N:=some 119) (v:=?_) (a':=?_) #[true,true,true,true,true,true,true,true,true,true,true,true,true,true,true,true,false,true,false,false,false,false,false,false,false,false,false] rfl rfl (any_of HT_.out (by kernel_rfl)) (fun _ _ _ h => h) (Or.inl ⟨by rfl,?_⟩) ?_ ?_
                              rotate_left
                              · intro w'
                                go_simp
                                with_reducible rfl
                              rotate_left
                              · simp only [Act.put,q1,q2,q3,i64_w,i32_w]
                                rfl
                              refine pure_ (i:=18) (N:=some 120) (v:=?_) (a':=?_) #[true,true,true,true,true,true,true,true,true,true,true,true,true,true,true,true,false,true,true,false,false,false,false,false,false,false,false] rfl rfl (any_of HT_.out (by kernel_rfl)) (fun _ _ _ h => h) (Or.inl ⟨by rfl,?_⟩) ?_ ?_
                              rotate_left
                              · intro w'
                                go_simp
                                with_reducible rfl
                              rotate_left
                              · simp only [Act.put,q1,q2,q3,i64_w,i32_w]
                                rfl
                              refine take_ (i:=16) (N:=some 118) (v:=?_) (a':=?_) #[true,true,true,true,true,true,true,true,true,true,true,true,true,true,true,true,true,true,true,false,false,false,false,false,false,false,false] rfl rfl (take_ofW HT_.out HW_.out (by kernel_rfl)) (fun _ _ _ h => h) (Or.inl ⟨by rfl,?_⟩) hHeld ?_ ?_
                              rotate_left
                              · rintro w' ⟨s0,s1,s2,s3,s4,s5,s6,s7,s8,s9,s10,s11⟩
                                go_simp
                                with_reducible rfl
                              rotate_left
                              · simp only [Act.put,q1,q2,q3,i64_w,i32_w]
                                rfl
                              refine take_ (i:=20) (N:=some 122) (v:=?_) (a':=?_) #[true,true,true,true,true,true,true,true,true,true,true,true,true,true,true,true,true,true,true,false,true,false,false,false,false,false,false] rfl rfl (take_ofW HT_.out HW_.out (by kernel_rfl)) (fun _ _ _ h => h) (Or.inl ⟨by rfl,?_⟩) hHeld ?_ ?_
                              rotate_left
                              · rintro w' ⟨s0,s1,s2,s3,s4,s5,s6,s7,s8,s9,s10,s11⟩
                                go_simp
                                with_reducible rfl
                              rotate_left
                              · simp only [Act.put,q1,q2,q3,i64_w,i32_w]
                                rfl
                              refine one_ (i:=19) (N:=some 121) #[true,true,true,true,true,true,true,true,true,true,true,true,true,true,true,true,true,true,true,true,true,false,false,false,false,false,false] rfl rfl (one_of HT_.out (by kernel_rfl)) (by decide) (fun K hK => ?_);refine goes_ Try.func23 (by kernel_rfl) rfl #[.agg #[.int .i64 a0_0,.int .i64 a0_1,.int .i64 a0_2,.slice (some ad640) l0_3.length c0_3],.int .i64 65,.int .i64 (wrap64 ((Int.tmod (wrap64 (a1)) a0_1) + (wrap64 ((wrap64 (a3)) * a0_1)))),.int .i64 (wrap64 ((Int.tmod (wrap64 (a2)) a0_2) + (wrap64 ((wrap64 (a4)) * a0_2))))] (by rfl) rfl rfl (by (try simp only [List.map_toArray,List.map_cons,List.map_nil]);first|done|rfl|(simp only [List.length_drop,List.length_take];rfl)) ?_
                              with_reducible refine (celluloidlaw20_at.calls kj17 a0_0 a0_1 a0_2 (fun k_ => k_ < w.heap.size) _ _ l0_3 65 (wrap64 ((Int.tmod (wrap64 (a1)) a0_1) + (wrap64 ((wrap64 (a3)) * a0_1)))) (wrap64 ((Int.tmod (wrap64 (a2)) a0_2) + (wrap64 ((wrap64 (a4)) * a0_2)))) t647 t648 t649 t650 _ ?side1 A44.out).mono ?_
                              (case side1 => exact Kd.V_mk HC0_3.out (Kd.F_below (Kd.C_F k23_heap HR0_3.out) (by repeat (first|(with_reducible first|exact HB.out|apply sa|apply sn|apply sd|refine sy ?_ (by assumption))|exact HB.out))))
                              rintro e w55 ⟨rfl,hb⟩
                              refine ⟨_,rfl,?_⟩;replace BK627:=am (bw (by exact BK627.out) hb);replace BK641:=am (bw (by exact BK641.out) hb);replace HB:=am (ss (by repeat (first|(with_reducible first|exact HB.out|apply sa|apply sn|apply sd|refine sy ?_ (by assumption))|exact HB.out)) hb);(try clear hb);(try clear hb2);(try clear hk);(try clear hi);refine hK.out _ _ ⟨(bc BK627.out 0).trans rfl,(bc BK627.out 1).trans rfl,(bc BK627.out 2).trans rfl,(bc BK627.out 3).trans rfl,(bc BK641.out 0).trans rfl,(bc BK641.out 1).trans rfl,(bc BK641.out 2).trans rfl,(bc BK641.out 3).trans rfl,((HB.out.cell (World.block_lt_of_cell? w _ hw646_0)).trans hw646_0),((HB.out.cell (World.block_lt_of_cell? w _ hw646_1)).trans hw646_1),((HB.out.cell (World.block_lt_of_cell? w _ hw646_2)).trans hw646_2),((HB.out.cell (World.block_lt_of_cell? w _ hw646_3)).trans hw646_3)⟩ (fun hHeld => ?_);clear hK K;refine norm_ (a':=?_) ?_ ?_
                              rotate_left
                              · show Act.put _ (some 121) _ = _
                                simp only [Act.put,q1,q2,q3,i64_w,i32_w]
                                rfl
                              refine pure_ (i:=21) (N:=some 123) (v:=?_) (a':=?_) #[true,true,true,true,true,true,true,true,true,true,true,true,true,true,true,true,true,true,true,true,true,true,false,false,false,false,false] rfl rfl (any_of HT_.out (by kernel_rfl)) (fun _ _ _ h => h) (Or.inl ⟨by rfl,?_⟩) ?_ ?_
                              rotate_left
                              · intro w'
                                go_simp
                                with_reducible rfl
                              rotate_left
                              · simp only [Act.put,q1,q2,q3,i64_w,i32_w]
                                rfl
                              refine pure_ (i:=22) (N:=some 124) (v:=?_) (a':=?_) #[true,true,true,true,true,true,true,true,true,true,true,true,true,true,true,true,true,true,true,true,true,true,true,false,false,false,false] rfl rfl (any_of HT_.out (by kernel_rfl)) (fun _ _ _ h => h) (Or.inl ⟨by rfl,?_⟩) ?_ ?_
                              rotate_left
                              · intro w'
                                go_simp
                                with_reducible rfl
                              rotate_left
                              · simp only [Act.put,q1,q2,q3,i64_w,i32_w]
                                rfl
                              refine pure_ (i:=23) (N:=some 125) (v:=?_) (a':=?_) #[true,true,true,true,true,true,true,true,true,true,true,true,true,true,true,true,true,true,true,true,true,true,true,true,false,false,false] rfl rfl (any_of HT_.out (by kernel_rfl)) (fun _ _ _ h => h) (Or.inl ⟨by rfl,?_⟩) ?_ ?_
                              rotate_left
                              · intro w'
                                go_simp
                                with_reducible rfl
                              rotate_left
                              · simp only [Act.put,q1,q2,q3,i64_w,i32_w]
                                rfl
                              refine one_ (i:=24) (N:=some 126) #[true,true,true,true,true,true,true,true,true,true,true,true,true,true,true,true,true,true,true,true,true,true,true,true,true,false,false] rfl rfl (one_of HT_.out (by kernel_rfl)) (by decide) (fun K hK => ?_);refine goes_ Try.func12 (by kernel_rfl) rfl #[] (by rfl) rfl rfl (by (try simp only [List.map_toArray,List.map_cons,List.map_nil]);first|done|rfl|(simp only [List.length_drop,List.length_take];rfl)) ?_
                              with_reducible refine (celluloidlaw20_awake.calls kj17  t651 _ A46.out).mono ?_
                              rintro e w56 ⟨rfl,hb⟩
                              refine ⟨_,rfl,?_⟩;replace BK627:=am (bw (by exact BK627.out) hb);replace BK641:=am (bw (by exact BK641.out) hb);replace HB:=am (ss (by repeat (first|(with_reducible first|exact HB.out|apply sa|apply sn|apply sd|refine sy ?_ (by assumption))|exact HB.out)) hb);(try clear hb);(try clear hb2);(try clear hk);(try clear hi);refine hK.out _ _ ⟨(bc BK627.out 0).trans rfl,(bc BK627.out 1).trans rfl,(bc BK627.out 2).trans rfl,(bc BK627.out 3).trans rfl,(bc BK641.out 0).trans rfl,(bc BK641.out 1).trans rfl,(bc BK641.out 2).trans rfl,(bc BK641.out 3).trans rfl,((HB.out.cell (World.block_lt_of_cell? w _ hw646_0)).trans hw646_0),((HB.out.cell (World.block_lt_of_cell? w _ hw646_1)).trans hw646_1),((HB.out.cell (World.block_lt_of_cell? w _ hw646_2)).trans hw646_2),((HB.out.cell (World.block_lt_of_cell? w _ hw646_3)).trans hw646_3)⟩ (fun hHeld => ?_);clear hK K;refine norm_ (a':=?_) ?_ ?_
                              rotate_left
                              · show Act.put _ (some 126) _ = _
                                simp only [Act.put,q1,q2,q3,i64_w,i32_w]
                                rfl
                              refine pure_ (i:=25) (N:=some 127) (v:=?_) (a':=?_) #[true,true,true,true,true,true,true,true,true,true,true,true,true,true,true,true,true,true,true,true,true,true,true,true,true,true,false] rfl rfl (any_of HT_.out (by kernel_rfl)) (fun _ _ _ h => h) (Or.inl ⟨by rfl,?_⟩) ?_ ?_
                              rotate_left
                              · intro w'
                                go_simp
                                with_reducible rfl
                              rotate_left
                              · simp only [Act.put,q1,q2,q3,i64_w,i32_w]
                                rfl
                              refine pure_ (i:=26) (N:=some 10) (v:=?_) (a':=?_) #[true,true,true,true,true,true,true,true,true,true,true,true,true,true,true,true,true,true,true,true,true,true,true,true,true,true,true] rfl rfl (any_of HT_.out (by kernel_rfl)) (fun _ _ _ h => h) (Or.inl ⟨by rfl,?_⟩) ?_ ?_
                              rotate_left
                              · intro w'
                                go_simp
                                with_reducible rfl
                              rotate_left
                              · simp only [Act.put,q1,q2,q3,i64_w,i32_w]
                                rfl
                              refine done_ (done_of HT_.out (by kernel_rfl)) ?_
                              try go_wp2
                              go_ret
                              exact ⟨by first|rfl|(simp [errW_none,errW_some] <;> rfl)|(simp only [← hji32, ← hji33, ← hji34, ← hji35, ← hji36, ← hji40];first|rfl|(simp [errW_none,errW_some] <;> rfl))|(simp [*,errW_none,errW_some] <;> rfl),by repeat (first|(with_reducible first|exact HB.out|apply sa|apply sn|apply sd|refine sy ?_ (by assumption))|exact HB.out)⟩
                            · rw [if_neg c45] at H
                              have c45b0 : (t647 == ((rd_T23 l0_3 (ji36)).f0) && (t648 == ((rd_T23 l0_3 (ji36)).f1) && (t649 == ((rd_T23 l0_3 (ji36)).f2) && (t650 == ((rd_T23 l0_3 (ji36)).f3))))) = false:=by simpa using c45
                              (try (have c45b1 : decide (t647 = ((rd_T23 l0_3 (ji36)).f0) && (t648 == ((rd_T23 l0_3 (ji36)).f1) && (t649 == ((rd_T23 l0_3 (ji36)).f2) && (t650 == ((rd_T23 l0_3 (ji36)).f3))))) = false:=by simpa using c45))
                              (try (have c45b2 : (t647 == ((rd_T23 l0_3 (ji36)).f0) && (t648 == ((rd_T23 l0_3 (ji36)).f1) && (t649 == ((rd_T23 l0_3 (ji36)).f2) && (t650 == ((rd_T23 l0_3 (ji36)).f3))))) = false:=by simpa using c45))
                              (try (have c45b3 : ¬ (t647 = ((rd_T23 l0_3 (ji36)).f0) && (t648 == ((rd_T23 l0_3 (ji36)).f1) && (t649 == ((rd_T23 l0_3 (ji36)).f2) && (t650 == ((rd_T23 l0_3 (ji36)).f3))))):=by simpa using c45))
                              clear c45;obtain rfl:=Option.some.inj H
                              try go_wp2
                              replace BK627:=am (bd BK627.out);replace HB:=am (sd HB.out);refine start_ (n:=16) (S:=fun w' => w'.cell? ⟨gb627,0,none⟩ = some (.int .i64 a0_0) ∧ w'.cell? ⟨gb627,1,none⟩ = some (.int .i64 a0_1) ∧ w'.cell? ⟨gb627,2,none⟩ = some (.int .i64 a0_2) ∧ w'.cell? ⟨gb627,3,none⟩ = some (.slice A0_3 l0_3.length c0_3)) (ds:=[]) #[false,false,false,false,false,false,false,false,false,false,false,false,false,false,false,false] (by kernel_rfl) rfl rfl ⟨(bc BK627.out 0).trans rfl,(bc BK627.out 1).trans rfl,(bc BK627.out 2).trans rfl,(bc BK627.out 3).trans rfl⟩ (fun hHeld => ?_);refine with_tabW celluloidlaw20_PaintTiles.tab6 celluloidlaw20_PaintTiles.bits6 (fun HT_ HW_ => ?_);generalize wc.drew = w57 at BK627 HB hHeld ⊢;refine pure_ (i:=0) (N:=some 68) (v:=?_) (a':=?_) #[true,false,false,false,false,false,false,false,false,false,false,false,false,false,false,false] rfl rfl (any_of HT_.out (by kernel_rfl)) (fun _ _ _ h => h) (Or.inl ⟨by rfl,?_⟩) ?_ ?_
                              rotate_left
                              · intro w'
                                go_simp
                                with_reducible rfl
                              rotate_left
                              · simp only [Act.put,q1,q2,q3,i64_w,i32_w]
                                rfl
                              refine pure_ (i:=1) (N:=some 69) (v:=?_) (a':=?_) #[true,true,false,false,false,false,false,false,false,false,false,false,false,false,false,false] rfl rfl (any_of HT_.out (by kernel_rfl)) (fun _ _ _ h => h) (Or.inl ⟨by rfl,?_⟩) ?_ ?_
                              rotate_left
                              · intro w'
                                go_simp
                                with_reducible rfl
                              rotate_left
                              · simp only [Act.put,q1,q2,q3,i64_w,i32_w]
                                rfl
                              refine pure_ (i:=2) (N:=some 70) (v:=?_) (a':=?_) #[true,true,true,false,false,false,false,false,false,false,false,false,false,false,false,false] rfl rfl (any_of HT_.out (by kernel_rfl)) (fun _ _ _ h => h) (Or.inl ⟨by rfl,?_⟩) ?_ ?_
                              rotate_left
                              · intro w'
                                go_simp
                                with_reducible rfl
                              rotate_left
                              · simp only [Act.put,q1,q2,q3,i64_w,i32_w]
                                rfl
                              refine pure_ (i:=3) (N:=some 71) (v:=?_) (a':=?_) #[true,true,true,true,false,false,false,false,false,false,false,false,false,false,false,false] rfl rfl (any_of HT_.out (by kernel_rfl)) (fun _ _ _ h => h) (Or.inl ⟨by rfl,?_⟩) ?_ ?_
                              rotate_left
                              · intro w'
                                go_simp
                                with_reducible rfl
                              rotate_left
                              · simp only [Act.put,q1,q2,q3,i64_w,i32_w]
                                rfl
                              refine pure_ (i:=7) (N:=some 75) (v:=?_) (a':=?_) #[true,true,true,true,false,false,false,true,false,false,false,false,false,false,false,false] rfl rfl (any_of HT_.out (by kernel_rfl)) (fun _ _ _ h => h) (Or.inl ⟨by rfl,?_⟩) ?_ ?_
                              rotate_left
                              · intro w'
                                go_simp
                                with_reducible rfl
                              rotate_left
                              · simp only [Act.put,q1,q2,q3,i64_w,i32_w]
                                rfl
                              refine pure_ (i:=8) (N:=some 76) (v:=?_) (a':=?_) #[true,true,true,true,false,false,false,true,true,false,false,false,false,false,false,false] rfl rfl (any_of HT_.out (by kernel_rfl)) (fun _ _ _ h => h) (Or.inl ⟨by rfl,?_⟩) ?_ ?_
                              rotate_left
                              · intro w'
                                go_simp
                                with_reducible rfl
                              rotate_left
                              · simp only [Act.put,q1,q2,q3,i64_w,i32_w]
                                rfl
                              refine pure_ (i:=9) (N:=some 77) (v:=?_) (a':=?_) #[true,true,true,true,false,false,false,true,true,true,false,false,false,false,false,false] rfl rfl (any_of HT_.out (by kernel_rfl)) (fun _ _ _ h => h) (Or.inl ⟨by rfl,?_⟩) ?_ ?_
                              rotate_left
                              · intro w'
                                go_simp
                                with_reducible rfl
                              rotate_left
                              · simp only [Act.put,q1,q2,q3,i64_w,i32_w]
                                rfl
                              refine pure_ (i:=10) (N:=some 78) (v:=?_) (a':=?_) #[true,true,true,true,false,false,false,true,true,true,true,false,false,false,false,false] rfl rfl (any_of HT_.out (by kernel_rfl)) (fun _ _ _ h => h) (Or.inl ⟨by rfl,?_⟩) ?_ ?_
                              rotate_left
                              · intro w'
                                go_simp
                                with_reducible rfl
                              rotate_left
                              · simp only [Act.put,q1,q2,q3,i64_w,i32_w]
                                rfl
                              refine take_ (i:=4) (N:=some 72) (v:=?_) (a':=?_) #[true,true,true,true,true,false,false,true,true,true,true,false,false,false,false,false] rfl rfl (take_ofW HT_.out HW_.out (by kernel_rfl)) (fun _ _ _ h => h) (Or.inl ⟨by rfl,?_⟩) hHeld ?_ ?_
                              rotate_left
                              · rintro w' ⟨s0,s1,s2,s3⟩
                                go_simp
                                with_reducible rfl
                              rotate_left
                              · simp only [Act.put,q1,q2,q3,i64_w,i32_w]
                                rfl
                              refine pure_ (i:=5) (N:=some 73) (v:=?_) (a':=?_) #[true,true,true,true,true,true,false,true,true,true,true,false,false,false,false,false] rfl rfl (any_of HT_.out (by kernel_rfl)) (fun _ _ _ h => h) (Or.inl ⟨by rfl,?_⟩) ?_ ?_
                              rotate_left
                              · intro w'
                                go_simp
                                with_reducible rfl
                              rotate_left
                              · simp only [Act.put,q1,q2,q3,i64_w,i32_w]
                                rfl
                              refine pure_ (i:=6) (N:=some 74) (v:=?_) (a':=?_) #[true,true,true,true,true,true,true,true,true,true,true,false,false,false,false,false] rfl rfl (any_of HT_.out (by kernel_rfl)) (fun _ _ _ h => h) (Or.inl ⟨by rfl,?_⟩) ?_ ?_
                              rotate_left
                              · intro w'
                                go_simp
                                with_reducible rfl
                              rotate_left
                              · simp only [Act.put,q1,q2,q3,i64_w,i32_w]
                                rfl
                              refine pure_ (i:=14) (N:=some 13) (v:=?_) (a':=?_) #[true,true,true,true,true,true,true,true,true,true,true,false,false,false,true,false] rfl rfl (any_of HT_.out (by kernel_rfl)) (fun _ _ _ h => h) (Or.inl ⟨by rfl,?_⟩) ?_ ?_
                              rotate_left
                              · intro w'
                                go_simp
                                with_reducible rfl
                              rotate_left
                              · simp only [Act.put,q1,q2,q3,i64_w,i32_w]
                                rfl
                              refine take_ (i:=11) (N:=some 79) (v:=?_) (a':=?_) #[true,true,true,true,true,true,true,true,true,true,true,true,false,false,true,false] rfl rfl (take_ofW HT_.out HW_.out (by kernel_rfl)) (fun _ _ _ h => h) (Or.inl ⟨by rfl,?_⟩) hHeld ?_ ?_
                              rotate_left
                              · rintro w' ⟨s0,s1,s2,s3⟩
                                go_simp
                                with_reducible rfl
                              rotate_left
                              · simp only [Act.put,q1,q2,q3,i64_w,i32_w]
                                rfl
                              refine pure_ (i:=12) (N:=some 80) (v:=?_) (a':=?_) #[true,true,true,true,true,true,true,true,true,true,true,true,true,false,true,false] rfl rfl (any_of HT_.out (by kernel_rfl)) (fun _ _ _ h => h) (Or.inl ⟨by rfl,?_⟩) ?_ ?_
                              rotate_left
                              · intro w'
                                go_simp
                                with_reducible rfl
                              rotate_left
                              · simp only [Act.put,q1,q2,q3,i64_w,i32_w]
                                rfl
                              refine pure_ (i:=13) (N:=some 81) (v:=?_) (a':=?_) #[true,true,true,true,true,true,true,true,true,true,true,true,true,true,true,false] rfl rfl (any_of HT_.out (by kernel_rfl)) (fun _ _ _ h => h) (Or.inl ⟨by rfl,?_⟩) ?_ ?_
                              rotate_left
                              · intro w'
                                go_simp
                                with_reducible rfl
                              rotate_left
                              · simp only [Act.put,q1,q2,q3,i64_w,i32_w]
                                rfl
                              refine pure_ (i:=15) (N:=some 14) (v:=?_) (a':=?_) #[true,true,true,true,true,true,true,true,true,true,true,true,true,true,true,true] rfl rfl (any_of HT_.out (by kernel_rfl)) (fun _ _ _ h => h) (Or.inl ⟨by rfl,?_⟩) ?_ ?_
                              rotate_left
                              · intro w'
                                go_simp
                                with_reducible rfl
                              rotate_left
                              · simp only [Act.put,q1,q2,q3,i64_w,i32_w]
                                rfl
                              refine done_ (done_of HT_.out (by kernel_rfl)) ?_;obtain ⟨hcz58_0,hcz58_1,hcz58_2,hcz58_3⟩:=cq4 BK627.out;obtain ⟨hfz58_0,hfz58_1,hfz58_2,hfz58_3⟩:=fq4 BK627.out;have p640 : 0 ≤ ((ji36) : Int):=of_decide_eq_true (by first|(with_reducible assumption)|assumption);have q640 : (ji36) < (l0_3.length : Int):=of_decide_eq_true (by first|(with_reducible assumption)|assumption);obtain ⟨ad640,e640,hx640_0,hx640_1,hx640_2,hx640_3⟩:=at_T23 HR0_3.out (ji36) p640 q640
                              cases e640
                              replace hx640_0:=(HB.out.cell (World.block_lt_of_cell? w _ hx640_0)).trans hx640_0;replace hx640_1:=(HB.out.cell (World.block_lt_of_cell? w _ hx640_1)).trans hx640_1;replace hx640_2:=(HB.out.cell (World.block_lt_of_cell? w _ hx640_2)).trans hx640_2;replace hx640_3:=(HB.out.cell (World.block_lt_of_cell? w _ hx640_3)).trans hx640_3;replace p640:=eq_true p640;replace q640:=eq_true q640
                              try go_wp2_with (first|((with_reducible refine gate_dst (N:=15) rfl ?_);refine box_event ?hg (N:=15) ?hd (cs:=#[.int .i64 0,.int .i64 0,.int .i64 0,.int .i64 0]) (t:=23) ?hr ?_;(case hd => rfl);(case hg => rfl);(case hr => first|(go_simp;done)|(go_simp;rfl));intro gb641 hg w59 hbox hb;have BK641:=am (hbox);obtain ⟨h1_,GW641⟩:=sg (by repeat (first|(with_reducible first|exact HB.out|apply sa|apply sn|apply sd|refine sx ?_ GE627.out)|exact HB.out)) hb hg;replace HB:=h1_;clear h1_;have GE641:=GW641;have NB627_641:=nb (by exact BK627.out) hg;have NB641_627:=ng (by exact BK627.out) hg;replace BK627:=am (bw (by exact BK627.out) hb);clear hb hbox hg;have hnb60:=NB641_627.out;have hnc60:=NB627_641.out;obtain ⟨hcz61_0,hcz61_1,hcz61_2,hcz61_3⟩:=cq4 BK641.out;obtain ⟨hfz61_0,hfz61_1,hfz61_2,hfz61_3⟩:=fq4 BK641.out))
                              have n0_ : Aside0 (((((w59.setCell ⟨gb641,0,none⟩ (.int .i64 ((rd_T23 l0_3 (ji36)).f0))).setCell ⟨gb641,1,none⟩ (.int .i64 ((rd_T23 l0_3 (ji36)).f1))).setCell ⟨gb641,2,none⟩ (.int .i64 ((rd_T23 l0_3 (ji36)).f2))).setCell ⟨gb641,3,none⟩ (.int .i64 ((rd_T23 l0_3 (ji36)).f3))).heap[gb627]? = some (.cells #[.int .i64 a0_0,.int .i64 a0_1,.int .i64 a0_2,.slice (some ad640) l0_3.length c0_3] 43 (0,0))):=⟨by (with_reducible repeat (first|refine bn ?_ _|refine bd ?_|refine ba ?_ _|refine bf ?_ NB627_641.out _));exact BK627.out⟩;have n1_ : Aside0 (((((w59.setCell ⟨gb641,0,none⟩ (.int .i64 ((rd_T23 l0_3 (ji36)).f0))).setCell ⟨gb641,1,none⟩ (.int .i64 ((rd_T23 l0_3 (ji36)).f1))).setCell ⟨gb641,2,none⟩ (.int .i64 ((rd_T23 l0_3 (ji36)).f2))).setCell ⟨gb641,3,none⟩ (.int .i64 ((rd_T23 l0_3 (ji36)).f3))).heap[gb641]? = some (.cells #[.int .i64 ((rd_T23 l0_3 (ji36)).f0),.int .i64 ((rd_T23 l0_3 (ji36)).f1),.int .i64 ((rd_T23 l0_3 (ji36)).f2),.int .i64 ((rd_T23 l0_3 (ji36)).f3)] 23 (0,0))):=⟨(bp (bp (bp (bp BK641.out 0 _ rfl) 1 _ rfl) 2 _ rfl) 3 _ rfl)⟩;have n2_ : Aside0 (Below w.heap.size w ((((w59.setCell ⟨gb641,0,none⟩ (.int .i64 ((rd_T23 l0_3 (ji36)).f0))).setCell ⟨gb641,1,none⟩ (.int .i64 ((rd_T23 l0_3 (ji36)).f1))).setCell ⟨gb641,2,none⟩ (.int .i64 ((rd_T23 l0_3 (ji36)).f2))).setCell ⟨gb641,3,none⟩ (.int .i64 ((rd_T23 l0_3 (ji36)).f3)))):=⟨by repeat (first|(with_reducible first|exact HB.out|apply sa|apply sn|apply sd|refine sy ?_ (by assumption))|exact HB.out)⟩;(try clear BK627);(try clear BK641);(try clear HB);generalize ((((w59.setCell ⟨gb641,0,none⟩ (.int .i64 ((rd_T23 l0_3 (ji36)).f0))).setCell ⟨gb641,1,none⟩ (.int .i64 ((rd_T23 l0_3 (ji36)).f1))).setCell ⟨gb641,2,none⟩ (.int .i64 ((rd_T23 l0_3 (ji36)).f2))).setCell ⟨gb641,3,none⟩ (.int .i64 ((rd_T23 l0_3 (ji36)).f3))) = w62 at n0_ n1_ n2_ ⊢;have BK627:=n0_;have BK641:=n1_;have HB:=n2_;clear n0_ n1_ n2_;replace BK627:=am (bd BK627.out);replace BK641:=am (bd BK641.out);replace HB:=am (sd HB.out);have p646 : 0 ≤ ((ji40) : Int):=of_decide_eq_true (by first|(with_reducible assumption)|assumption);have q646 : (ji40) < (l0_3.length : Int):=of_decide_eq_true (by first|(with_reducible assumption)|assumption);obtain ⟨ad646,e646,hx646_0,hx646_1,hx646_2,hx646_3⟩:=at_T23 HR0_3.out (ji40) p646 q646;have hw646_3:=hx646_3;have hw646_2:=hx646_2;have hw646_1:=hx646_1;have hw646_0:=hx646_0;obtain rfl : ad640 = ad646:=(by injection e646);replace hx646_0:=(HB.out.cell (World.block_lt_of_cell? w _ hx646_0)).trans hx646_0;replace hx646_1:=(HB.out.cell (World.block_lt_of_cell? w _ hx646_1)).trans hx646_1;replace hx646_2:=(HB.out.cell (World.block_lt_of_cell? w _ hx646_2)).trans hx646_2;replace hx646_3:=(HB.out.cell (World.block_lt_of_cell? w _ hx646_3)).trans hx646_3;replace p646:=eq_true p646;replace q646:=eq_true q646;refine start_ (n:=27) (S:=fun w' => w'.cell? ⟨gb627,0,none⟩ = some (.int .i64 a0_0) ∧ w'.cell? ⟨gb627,1,none⟩ = some (.int .i64 a0_1) ∧ w'.cell? ⟨gb627,2,none⟩ = some (.int .i64 a0_2) ∧ w'.cell? ⟨gb627,3,none⟩ = some (.slice (some ad640) l0_3.length c0_3) ∧ w'.cell? ⟨gb641,0,none⟩ = some (.int .i64 ((rd_T23 l0_3 (ji36)).f0)) ∧ w'.cell? ⟨gb641,1,none⟩ = some (.int .i64 ((rd_T23 l0_3 (ji36)).f1)) ∧ w'.cell? ⟨gb641,2,none⟩ = some (.int .i64 ((rd_T23 l0_3 (ji36)).f2)) ∧ w'.cell? ⟨gb641,3,none⟩ = some (.int .i64 ((rd_T23 l0_3 (ji36)).f3)) ∧ w'.cell? (ad640.add (((ji40)).toNat * 4)) = some (.int .i64 ((rd_T23 l0_3 (ji40)).f0)) ∧ w'.cell? ⟨(ad640.add (((ji40)).toNat * 4)).block,(ad640.add (((ji40)).toNat * 4)).off + 1,none⟩ = some (.int .i64 ((rd_T23 l0_3 (ji40)).f1)) ∧ w'.cell? ⟨(ad640.add (((ji40)).toNat * 4)).block,(ad640.add (((ji40)).toNat * 4)).off + 2,none⟩ = some (.int .i64 ((rd_T23 l0_3 (ji40)).f2)) ∧ w'.cell? ⟨(ad640.add (((ji40)).toNat * 4)).block,(ad640.add (((ji40)).toNat * 4)).off + 3,none⟩ = some (.int .i64 ((rd_T23 l0_3 (ji40)).f3))) (ds:=[]) #[false,false,false,false,false,false,false,false,false,false,false,false,false,false,false,false,false,false,false,false,false,false,false,false,false,false,false] (by kernel_rfl) rfl rfl ⟨(bc BK627.out 0).trans rfl,(bc BK627.out 1).trans rfl,(bc BK627.out 2).trans rfl,(bc BK627.out 3).trans rfl,(bc BK641.out 0).trans rfl,(bc BK641.out 1).trans rfl,(bc BK641.out 2).trans rfl,(bc BK641.out 3).trans rfl,((HB.out.cell (World.block_lt_of_cell? w _ hw646_0)).trans hw646_0),((HB.out.cell (World.block_lt_of_cell? w _ hw646_1)).trans hw646_1),((HB.out.cell (World.block_lt_of_cell? w _ hw646_2)).trans hw646_2),((HB.out.cell (World.block_lt_of_cell? w _ hw646_3)).trans hw646_3)⟩ (fun hHeld => ?_);refine with_tabW celluloidlaw20_PaintTiles.tab8 celluloidlaw20_PaintTiles.bits8 (fun HT_ HW_ => ?_);generalize w62.drew = w63 at BK627 BK641 HB hx646_0 hx646_1 hx646_2 hx646_3 hHeld ⊢;refine pure_ (i:=1) (N:=some 103) (v:=?_) (a':=?_) #[false,true,false,false,false,false,false,false,false,false,false,false,false,false,false,false,false,false,false,false,false,false,false,false,false,false,false] rfl rfl (any_of HT_.out (by kernel_rfl)) (fun _ _ _ h => h) (Or.inl ⟨by rfl,?_⟩) ?_ ?_
                              rotate_left
                              · intro w'
                                go_simp
                                with_reducible rfl
                              rotate_left
                              · simp only [Act.put,q1,q2,q3,i64_w,i32_w]
                                rfl
                              refine pure_ (i:=2) (N:=some 104) (v:=?_) (a':=?_) #[false,true,true,false,false,false,false,false,false,false,false,false,false,false,false,false,false,false,false,false,false,false,false,false,false,false,false] rfl rfl (any_of HT_.out (by kernel_rfl)) (fun _ _ _ h => h) (Or.inl ⟨by rfl,?_⟩) ?_ ?_
                              rotate_left
                              · intro w'
                                go_simp
                                with_reducible rfl
                              rotate_left
                              · simp only [Act.put,q1,q2,q3,i64_w,i32_w]
                                rfl
                              refine pure_ (i:=4) (N:=some 106) (v:=?_) (a':=?_) #[false,true,true,false,true,false,false,false,false,false,false,false,false,false,false,false,false,false,false,false,false,false,false,false,false,false,false] rfl rfl (any_of HT_.out (by kernel_rfl)) (fun _ _ _ h => h) (Or.inl ⟨by rfl,?_⟩) ?_ ?_
                              rotate_left
                              · intro w'
                                go_simp
                                with_reducible rfl
                              rotate_left
                              · simp only [Act.put,q1,q2,q3,i64_w,i32_w]
                                rfl
                              refine pure_ (i:=6) (N:=some 108) (v:=?_) (a':=?_) #[false,true,true,false,true,false,true,false,false,false,false,false,false,false,false,false,false,false,false,false,false,false,false,false,false,false,false] rfl rfl (any_of HT_.out (by kernel_rfl)) (fun _ _ _ h => h) (Or.inl ⟨by rfl,?_⟩) ?_ ?_
                              rotate_left
                              · intro w'
                                go_simp
                                with_reducible rfl
                              rotate_left
                              · simp only [Act.put,q1,q2,q3,i64_w,i32_w]
                                rfl
                              refine pure_ (i:=7) (N:=some 109) (v:=?_) (a':=?_) #[false,true,true,false,true,false,true,true,false,false,false,false,false,false,false,false,false,false,false,false,false,false,false,false,false,false,false] rfl rfl (any_of HT_.out (by kernel_rfl)) (fun _ _ _ h => h) (Or.inl ⟨by rfl,?_⟩) ?_ ?_
                              rotate_left
                              · intro w'
                                go_simp
                                with_reducible rfl
                              rotate_left
                              · simp only [Act.put,q1,q2,q3,i64_w,i32_w]
                                rfl
                              refine pure_ (i:=10) (N:=some 112) (v:=?_) (a':=?_) #[false,true,true,false,true,false,true,true,false,false,true,false,false,false,false,false,false,false,false,false,false,false,false,false,false,false,false] rfl rfl (any_of HT_.out (by kernel_rfl)) (fun _ _ _ h => h) (Or.inl ⟨by rfl,?_⟩) ?_ ?_
                              rotate_left
                              · intro w'
                                go_simp
                                with_reducible rfl
                              rotate_left
                              · simp only [Act.put,q1,q2,q3,i64_w,i32_w]
                                rfl
                              refine take_ (i:=0) (N:=some 102) (v:=?_) (a':=?_) #[true,true,true,false,true,false,true,true,false,false,true,false,false,false,false,false,false,false,false,false,false,false,false,false,false,false,false] rfl rfl (take_ofW HT_.out HW_.out (by kernel_rfl)) (fun _ _ _ h => h) (Or.inl ⟨by rfl,?_⟩) hHeld ?_ ?_
                              rotate_left
                              · rintro w' ⟨s0,s1,s2,s3,s4,s5,s6,s7,s8,s9,s10,s11⟩
                                go_simp
                                with_reducible rfl
                              rotate_left
                              · simp only [Act.put,q1,q2,q3,i64_w,i32_w]
                                rfl
                              refine take_ (i:=5) (N:=some 107) (v:=?_) (a':=?_) #[true,true,true,false,true,true,true,true,false,false,true,false,false,false,false,false,false,false,false,false,false,false,false,false,false,false,false] rfl rfl (take_ofW HT_.out HW_.out (by kernel_rfl)) (fun _ _ _ h => h) (Or.inl ⟨by rfl,?_⟩) hHeld ?_ ?_
                              rotate_left
                              · rintro w' ⟨s0,s1,s2,s3,s4,s5,s6,s7,s8,s9,s10,s11⟩
                                go_simp
                                with_reducible rfl
                              rotate_left
                              · simp only [Act.put,q1,q2,q3,i64_w,i32_w]
                                rfl
                              refine take_ (i:=8) (N:=some 110) (v:=?_) (a':=?_) #[true,true,true,false,true,true,true,true,true,false,true,false,false,false,false,false,false,false,false,false,false,false,false,false,false,false,false] rfl rfl (take_ofW HT_.out HW_.out (by kernel_rfl)) (fun _ _ _ h => h) (Or.inl ⟨by rfl,?_⟩) hHeld ?_ ?_
                              rotate_left
                              · rintro w' ⟨s0,s1,s2,s3,s4,s5,s6,s7,s8,s9,s10,s11⟩
                                go_simp
                                with_reducible rfl
                              rotate_left
                              · simp only [Act.put,q1,q2,q3,i64_w,i32_w]
                                rfl
                              refine pure_ (i:=9) (N:=some 111) (v:=?_) (a':=?_) #[true,true,true,false,true,true,true,true,true,true,true,false,false,false,false,false,false,false,false,false,false,false,false,false,false,false,false] rfl rfl (any_of HT_.out (by kernel_rfl)) (fun _ _ _ h => h) (Or.inl ⟨by rfl,?_⟩) ?_ ?_
                              rotate_left
                              · intro w'
                                go_simp
                                with_reducible rfl
                              rotate_left
                              · simp only [Act.put,q1,q2,q3,i64_w,i32_w]
                                rfl
                              refine pure_ (i:=11) (N:=some 113) (v:=?_) (a':=?_) #[true,true,true,false,true,true,true,true,true,true,true,true,false,false,false,false,false,false,false,false,false,false,false,false,false,false,false] rfl rfl (any_of HT_.out (by kernel_rfl)) (fun _ _ _ h => h) (Or.inl ⟨by rfl,?_⟩) ?_ ?_
                              rotate_left
                              · intro w'
                                go_simp
                                with_reducible rfl
                              rotate_left
                              · simp only [Act.put,q1,q2,q3,i64_w,i32_w]
                                rfl
                              refine pure_ (i:=12) (N:=some 114) (v:=?_) (a':=?_) #[true,true,true,false,true,true,true,true,true,true,true,true,true,false,false,false,false,false,false,false,false,false,false,false,false,false,false] rfl rfl (any_of HT_.out (by kernel_rfl)) (fun _ _ _ h => h) (Or.inl ⟨by rfl,?_⟩) ?_ ?_
                              rotate_left
                              · intro w'
                                go_simp
                                with_reducible rfl
                              rotate_left
                              · simp only [Act.put,q1,q2,q3,i64_w,i32_w]
                                rfl
                              refine take_ (i:=13) (N:=some 115) (v:=?_) (a':=?_) #[true,true,true,false,true,true,true,true,true,true,true,true,true,true,false,false,false,false,false,false,false,false,false,false,false,false,false] rfl rfl (take_ofW HT_.out HW_.out (by kernel_rfl)) (fun _ _ _ h => h) (Or.inl ⟨by rfl,?_⟩) hHeld ?_ ?_
                              rotate_left
                              · rintro w' ⟨s0,s1,s2,s3,s4,s5,s6,s7,s8,s9,s10,s11⟩
                                go_simp
                                with_reducible rfl
                              rotate_left
                              · simp only [Act.put,q1,q2,q3,i64_w,i32_w]
                                rfl
                              refine one_ (i:=3) (N:=some 105) #[true,true,true,true,true,true,true,true,true,true,true,true,true,true,false,false,false,false,false,false,false,false,false,false,false,false,false] rfl rfl (one_of HT_.out (by kernel_rfl)) (by decide) (fun K hK => ?_);refine goes_ Try.func23 (by kernel_rfl) rfl #[.agg #[.int .i64 a0_0,.int .i64 a0_1,.int .i64 a0_2,.slice (some ad640) l0_3.length c0_3],.int .i64 64,.int .i64 (wrap64 ((Int.tmod (wrap64 (a1)) a0_1) + (wrap64 ((wrap64 (a3)) * a0_1)))),.int .i64 (wrap64 ((Int.tmod (wrap64 (a2)) a0_2) + (wrap64 ((wrap64 (a4)) * a0_2))))] (by rfl) rfl rfl (by (try simp only [List.map_toArray,List.map_cons,List.map_nil]);first|done|rfl|(simp only [List.length_drop,List.length_take];rfl)) ?_
                              with_reducible refine (celluloidlaw20_at.calls kj17 a0_0 a0_1 a0_2 (fun k_ => k_ < w.heap.size) _ _ l0_3 64 (wrap64 ((Int.tmod (wrap64 (a1)) a0_1) + (wrap64 ((wrap64 (a3)) * a0_1)))) (wrap64 ((Int.tmod (wrap64 (a2)) a0_2) + (wrap64 ((wrap64 (a4)) * a0_2)))) t642 t643 t644 t645 _ ?side1 A39.out).mono ?_
                              (case side1 => exact Kd.V_mk HC0_3.out (Kd.F_below (Kd.C_F k23_heap HR0_3.out) (by repeat (first|(with_reducible first|exact HB.out|apply sa|apply sn|apply sd|refine sy ?_ (by assumption))|exact HB.out))))
                              rintro e w64 ⟨rfl,hb⟩
                              refine ⟨_,rfl,?_⟩;replace BK627:=am (bw (by exact BK627.out) hb);replace BK641:=am (bw (by exact BK641.out) hb);replace HB:=am (ss (by repeat (first|(with_reducible first|exact HB.out|apply sa|apply sn|apply sd|refine sy ?_ (by assumption))|exact HB.out)) hb);(try clear hb);(try clear hb2);(try clear hk);(try clear hi);refine hK.out _ _ ⟨(bc BK627.out 0).trans rfl,(bc BK627.out 1).trans rfl,(bc BK627.out 2).trans rfl,(bc BK627.out 3).trans rfl,(bc BK641.out 0).trans rfl,(bc BK641.out 1).trans rfl,(bc BK641.out 2).trans rfl,(bc BK641.out 3).trans rfl,((HB.out.cell (World.block_lt_of_cell? w _ hw646_0)).trans hw646_0),((HB.out.cell (World.block_lt_of_cell? w _ hw646_1)).trans hw646_1),((HB.out.cell (World.block_lt_of_cell? w _ hw646_2)).trans hw646_2),((HB.out.cell (World.block_lt_of_cell? w _ hw646_3)).trans hw646_3)⟩ (fun hHeld => ?_);clear hK K;refine norm_ (a':=?_) ?_ ?_
                              rotate_left
                              · show Act.put _ (some 105) _ = _
                                simp only [Act.put,q1,q2,q3,i64_w,i32_w]
                                rfl
                              refine pure_ (i:=14) (N:=some 116) (v:=?_) (a':=?_) #[true,true,true,true,true,true,true,true,true,true,true,true,true,true,true,false,false,false,false,false,false,false,false,false,false,false,false] rfl rfl (any_of HT_.out (by kernel_rfl)) (fun _ _ _ h => h) (Or.inl ⟨by rfl,?_⟩) ?_ ?_
                              rotate_left
                              · intro w'
                                go_simp
                                with_reducible rfl
                              rotate_left
                              · simp only [Act.put,q1,q2,q3,i64_w,i32_w]
                                rfl
                              refine pure_ (i:=15) (N:=some 117) (v:=?_) (a':=?_) #[true,true,true,true,true,true,true,true,true,true,true,true,true,true,true,true,false,false,false,false,false,false,false,false,false,false,false] rfl rfl (any_of HT_.out (by kernel_rfl)) (fun _ _ _ h => h) (Or.inl ⟨by rfl,?_⟩) ?_ ?_
                              rotate_left
                              · intro w'
                                go_simp
                                with_reducible rfl
                              rotate_left
                              · simp only [Act.put,q1,q2,q3,i64_w,i32_w]
                                rfl
                              refine pure_ (i:=17) (N:=some 119) (v:=?_) (a':=?_) #[true,true,true,true,true,true,true,true,true,true,true,true,true,true,true,true,false,true,false,false,false,false,false,false,false,false,false] rfl rfl (any_of HT_.out (by kernel_rfl)) (fun _ _ _ h => h) (Or.inl ⟨by rfl,?_⟩) ?_ ?_
                              rotate_left
                              · intro w'
                                go_simp
                                with_reducible rfl
                              rotate_left
                              · simp only [Act.put,q1,q2,q3,i64_w,i32_w]
                                rfl
                              refine pure_ (i:=18) (N:=some 120) (v:=?_) (a':=?_) #[true,true,true,true,true,true,true,true,true,true,true,true,true,true,true,true,false,true,true,false,false,false,false,false,false,false,false] rfl rfl (any_of HT_.out (by kernel_rfl)) (fun _ _ _ h => h) (Or.inl ⟨by rfl,?_⟩) ?_ ?_
                              rotate_left
                              · intro w'
                                go_simp
                                with_reducible rfl
                              rotate_left
                              · simp only [Act.put,q1,q2,q3,i64_w,i32_w]
                                rfl
                              refine take_ (i:=16) (N:=some 118) (v:=?_) (a':=?_) #[true,true,true,true,true,true,true,true,true,true,true,true,true,true,true,true,true,true,true,false,false,false,false,false,false,false,false] rfl rfl (take_ofW HT_.out HW_.out (by kernel_rfl)) (fun _ _ _ h => h) (Or.inl ⟨by rfl,?_⟩) hHeld ?_ ?_
                              rotate_left
                              · rintro w' ⟨s0,s1,s2,s3,s4,s5,s6,s7,s8,s9,s10,s11⟩
                                go_simp
                                with_reducible rfl
                              rotate_left
                              · simp only [Act.put,q1,q2,q3,i64_w,i32_w]
                                rfl
                              refine take_ (i:=20) (N:=some 122) (v:=?_) (a':=?_) #[true,true,true,true,true,true,true,true,true,true,true,true,true,true,true,true,true,true,true,false,true,false,false,false,false,false,false] rfl rfl (take_ofW HT_.out HW_.out (by kernel_rfl)) (fun _ _ _ h => h) (Or.inl ⟨by rfl,?_⟩) hHeld ?_ ?_
                              rotate_left
                              · rintro w' ⟨s0,s1,s2,s3,s4,s5,s6,s7,s8,s9,s10,s11⟩
                                go_simp
                                with_reducible rfl
                              rotate_left
                              · simp only [Act.put,q1,q2,q3,i64_w,i32_w]
                                rfl
                              refine one_ (i:=19) (N:=some 121) #[true,true,true,true,true,true,true,true,true,true,true,true,true,true,true,true,true,true,true,true,true,false,false,false,false,false,false] rfl rfl (one_of HT_.out (by kernel_rfl)) (by decide) (fun K hK => ?_);refine goes_ Try.func23 (by kernel_rfl) rfl #[.agg #[.int .i64 a0_0,.int .i64 a0_1,.int .i64 a0_2,.slice (some ad640) l0_3.length c0_3],.int .i64 65,.int .i64 (wrap64 ((Int.tmod (wrap64 (a1)) a0_1) + (wrap64 ((wrap64 (a3)) * a0_1)))),.int .i64 (wrap64 ((Int.tmod (wrap64 (a2)) a0_2) + (wrap64 ((wrap64 (a4)) * a0_2))))] (by rfl) rfl rfl (by (try simp only [List.map_toArray,List.map_cons,List.map_nil]);first|done|rfl|(simp only [List.length_drop,List.length_take];rfl)) ?_
                              with_reducible refine (celluloidlaw20_at.calls kj17 a0_0 a0_1 a0_2 (fun k_ => k_ < w.heap.size) _ _ l0_3 65 (wrap64 ((Int.tmod (wrap64 (a1)) a0_1) + (wrap64 ((wrap64 (a3)) * a0_1)))) (wrap64 ((Int.tmod (wrap64 (a2)) a0_2) + (wrap64 ((wrap64 (a4)) * a0_2)))) t647 t648 t649 t650 _ ?side1 A44.out).mono ?_
                              (case side1 => exact Kd.V_mk HC0_3.out (Kd.F_below (Kd.C_F k23_heap HR0_3.out) (by repeat (first|(with_reducible first|exact HB.out|apply sa|apply sn|apply sd|refine sy ?_ (by assumption))|exact HB.out))))
                              rintro e w65 ⟨rfl,hb⟩
                              refine ⟨_,rfl,?_⟩;replace BK627:=am (bw (by exact BK627.out) hb);replace BK641:=am (bw (by exact BK641.out) hb);replace HB:=am (ss (by repeat (first|(with_reducible first|exact HB.out|apply sa|apply sn|apply sd|refine sy ?_ (by assumption))|exact HB.out)) hb);(try clear hb);(try clear hb2);(try clear hk);(try clear hi);refine hK.out _ _ ⟨(bc BK627.out 0).trans rfl,(bc BK627.out 1).trans rfl,(bc BK627.out 2).trans rfl,(bc BK627.out 3).trans rfl,(bc BK641.out 0).trans rfl,(bc BK641.out 1).trans rfl,(bc BK641.out 2).trans rfl,(bc BK641.out 3).trans rfl,((HB.out.cell (World.block_lt_of_cell? w _ hw646_0)).trans hw646_0),((HB.out.cell (World.block_lt_of_cell? w _ hw646_1)).trans hw646_1),((HB.out.cell (World.block_lt_of_cell? w _ hw646_2)).trans hw646_2),((HB.out.cell (World.block_lt_of_cell? w _ hw646_3)).trans hw646_3)⟩ (fun hHeld => ?_);clear hK K;refine norm_ (a':=?_) ?_ ?_
                              rotate_left
                              · show Act.put _ (some 121) _ = _
                                simp only [Act.put,q1,q2,q3,i64_w,i32_w]
                                rfl
                              refine pure_ (i:=21) (N:=some 123) (v:=?_) (a':=?_) #[true,true,true,true,true,true,true,true,true,true,true,true,true,true,true,true,true,true,true,true,true,true,false,false,false,false,false] rfl rfl (any_of HT_.out (by kernel_rfl)) (fun _ _ _ h => h) (Or.inl ⟨by rfl,?_⟩) ?_ ?_
                              rotate_left
                              · intro w'
                                go_simp
                                with_reducible rfl
                              rotate_left
                              · simp only [Act.put,q1,q2,q3,i64_w,i32_w]
                                rfl
                              refine pure_ (i:=22) (N:=some 124) (v:=?_) (a':=?_) #[true,true,true,true,true,true,true,true,true,true,true,true,true,true,true,true,true,true,true,true,true,true,true,false,false,false,false] rfl rfl (any_of HT_.out (by kernel_rfl)) (fun _ _ _ h => h) (Or.inl ⟨by rfl,?_⟩) ?_ ?_
                              rotate_left
                              · intro w'
                                go_simp
                                with_reducible rfl
                              rotate_left
                              · simp only [Act.put,q1,q2,q3,i64_w,i32_w]
                                rfl
                              refine pure_ (i:=23) (N:=some 125) (v:=?_) (a':=?_) #[true,true,true,true,true,true,true,true,true,true,true,true,true,true,true,true,true,true,true,true,true,true,true,true,false,false,false] rfl rfl (any_of HT_.out (by kernel_rfl)) (fun _ _ _ h => h) (Or.inl ⟨by rfl,?_⟩) ?_ ?_
                              rotate_left
                              · intro w'
                                go_simp
                                with_reducible rfl
                              rotate_left
                              · simp only [Act.put,q1,q2,q3,i64_w,i32_w]
                                rfl
                              refine pure_ (i:=24) (N:=some 126) (v:=undef) (a':=?_) #[true,true,true,true,true,true,true,true,true,true,true,true,true,true,true,true,true,true,true,true,true,true,true,true,true,false,false] rfl rfl (any_of HT_.out (by kernel_rfl)) (fun _ _ _ h => h) (Or.inr ⟨by rfl,rfl⟩) ?_ ?_
                              rotate_left
                              · simp only [Act.put,q1,q2,q3,i64_w,i32_w]
                                rfl
                              refine pure_ (i:=25) (N:=some 127) (v:=?_) (a':=?_) #[true,true,true,true,true,true,true,true,true,true,true,true,true,true,true,true,true,true,true,true,true,true,true,true,true,true,false] rfl rfl (any_of HT_.out (by kernel_rfl)) (fun _ _ _ h => h) (Or.inl ⟨by rfl,?_⟩) ?_ ?_
                              rotate_left
                              · intro w'
                                go_simp
                                with_reducible rfl
                              rotate_left
                              · simp only [Act.put,q1,q2,q3,i64_w,i32_w]
                                rfl
                              refine pure_ (i:=26) (N:=some 10) (v:=?_) (a':=?_) #[true,true,true,true,true,true,true,true,true,true,true,true,true,true,true,true,true,true,true,true,true,true,true,true,true,true,true] rfl rfl (any_of HT_.out (by kernel_rfl)) (fun _ _ _ h => h) (Or.inl ⟨by rfl,?_⟩) ?_ ?_
                              rotate_left
                              · intro w'
                                go_simp
                                with_reducible rfl
                              rotate_left
                              · simp only [Act.put,q1,q2,q3,i64_w,i32_w]
                                rfl
                              refine done_ (done_of HT_.out (by kernel_rfl)) ?_
                              try go_wp2
                              go_ret
                              exact ⟨by first|rfl|(simp [errW_none,errW_some] <;> rfl)|(simp only [← hji32, ← hji33, ← hji34, ← hji35, ← hji36, ← hji40];first|rfl|(simp [errW_none,errW_some] <;> rfl))|(simp [*,errW_none,errW_some] <;> rfl),by repeat (first|(with_reducible first|exact HB.out|apply sa|apply sn|apply sd|refine sy ?_ (by assumption))|exact HB.out)⟩
                          · rw [if_neg c43] at H
                            have c43b0 : (t642 == ((rd_T23 l0_3 (ji40)).f0) && (t643 == ((rd_T23 l0_3 (ji40)).f1) && (t644 == ((rd_T23 l0_3 (ji40)).f2) && (t645 == ((rd_T23 l0_3 (ji40)).f3))))) = false:=by simpa using c43
                            (try (have c43b1 : decide (t642 = ((rd_T23 l0_3 (ji40)).f0) && (t643 == ((rd_T23 l0_3 (ji40)).f1) && (t644 == ((rd_T23 l0_3 (ji40)).f2) && (t645 == ((rd_T23 l0_3 (ji40)).f3))))) = false:=by simpa using c43))
                            (try (have c43b2 : (t642 == ((rd_T23 l0_3 (ji40)).f0) && (t643 == ((rd_T23 l0_3 (ji40)).f1) && (t644 == ((rd_T23 l0_3 (ji40)).f2) && (t645 == ((rd_T23 l0_3 (ji40)).f3))))) = false:=by simpa using c43))
                            (try (have c43b3 : ¬ (t642 = ((rd_T23 l0_3 (ji40)).f0) && (t643 == ((rd_T23 l0_3 (ji40)).f1) && (t644 == ((rd_T23 l0_3 (ji40)).f2) && (t645 == ((rd_T23 l0_3 (ji40)).f3))))):=by simpa using c43))
                            clear c43;obtain rfl:=Option.some.inj H
                            try go_wp2
                            replace BK627:=am (bd BK627.out);replace HB:=am (sd HB.out);refine start_ (n:=16) (S:=fun w' => w'.cell? ⟨gb627,0,none⟩ = some (.int .i64 a0_0) ∧ w'.cell? ⟨gb627,1,none⟩ = some (.int .i64 a0_1) ∧ w'.cell? ⟨gb627,2,none⟩ = some (.int .i64 a0_2) ∧ w'.cell? ⟨gb627,3,none⟩ = some (.slice A0_3 l0_3.length c0_3)) (ds:=[]) #[false,false,false,false,false,false,false,false,false,false,false,false,false,false,false,false] (by kernel_rfl) rfl rfl ⟨(bc BK627.out 0).trans rfl,(bc BK627.out 1).trans rfl,(bc BK627.out 2).trans rfl,(bc BK627.out 3).trans rfl⟩ (fun hHeld => ?_);refine with_tabW celluloidlaw20_PaintTiles.tab6 celluloidlaw20_PaintTiles.bits6 (fun HT_ HW_ => ?_);generalize wc.drew = w66 at BK627 HB hHeld ⊢;refine pure_ (i:=0) (N:=some 68) (v:=?_) (a':=?_) #[true,false,false,false,false,false,false,false,false,false,false,false,false,false,false,false] rfl rfl (any_of HT_.out (by kernel_rfl)) (fun _ _ _ h => h) (Or.inl ⟨by rfl,?_⟩) ?_ ?_
                            rotate_left
                            · intro w'
                              go_simp
                              with_reducible rfl
                            rotate_left
                            · simp only [Act.put,q1,q2,q3,i64_w,i32_w]
                              rfl
                            refine pure_ (i:=1) (N:=some 69) (v:=?_) (a':=?_) #[true,true,false,false,false,false,false,false,false,false,false,false,false,false,false,false] rfl rfl (any_of HT_.out (by kernel_rfl)) (fun _ _ _ h => h) (Or.inl ⟨by rfl,?_⟩) ?_ ?_
                            rotate_left
                            · intro w'
                              go_simp
                              with_reducible rfl
                            rotate_left
                            · simp only [Act.put,q1,q2,q3,i64_w,i32_w]
                              rfl
                            refine pure_ (i:=2) (N:=some 70) (v:=?_) (a':=?_) #[true,true,true,false,false,false,false,false,false,false,false,false,false,false,false,false] rfl rfl (any_of HT_.out (by kernel_rfl)) (fun _ _ _ h => h) (Or.inl ⟨by rfl,?_⟩) ?_ ?_
                            rotate_left
                            · intro w'
                              go_simp
                              with_reducible rfl
                            rotate_left
                            · simp only [Act.put,q1,q2,q3,i64_w,i32_w]
                              rfl
                            refine pure_ (i:=3) (N:=some 71) (v:=?_) (a':=?_) #[true,true,true,true,false,false,false,false,false,false,false,false,false,false,false,false] rfl rfl (any_of HT_.out (by kernel_rfl)) (fun _ _ _ h => h) (Or.inl ⟨by rfl,?_⟩) ?_ ?_
                            rotate_left
                            · intro w'
                              go_simp
                              with_reducible rfl
                            rotate_left
                            · simp only [Act.put,q1,q2,q3,i64_w,i32_w]
                              rfl
                            refine pure_ (i:=7) (N:=some 75) (v:=?_) (a':=?_) #[true,true,true,true,false,false,false,true,false,false,false,false,false,false,false,false] rfl rfl (any_of HT_.out (by kernel_rfl)) (fun _ _ _ h => h) (Or.inl ⟨by rfl,?_⟩) ?_ ?_
                            rotate_left
                            · intro w'
                              go_simp
                              with_reducible rfl
                            rotate_left
                            · simp only [Act.put,q1,q2,q3,i64_w,i32_w]
                              rfl
                            refine pure_ (i:=8) (N:=some 76) (v:=?_) (a':=?_) #[true,true,true,true,false,false,false,true,true,false,false,false,false,false,false,false] rfl rfl (any_of HT_.out (by kernel_rfl)) (fun _ _ _ h => h) (Or.inl ⟨by rfl,?_⟩) ?_ ?_
                            rotate_left
                            · intro w'
                              go_simp
                              with_reducible rfl
                            rotate_left
                            · simp only [Act.put,q1,q2,q3,i64_w,i32_w]
                              rfl
                            refine pure_ (i:=9) (N:=some 77) (v:=?_) (a':=?_) #[true,true,true,true,false,false,false,true,true,true,false,false,false,false,false,false] rfl rfl (any_of HT_.out (by kernel_rfl)) (fun _ _ _ h => h) (Or.inl ⟨by rfl,?_⟩) ?_ ?_
                            rotate_left
                            · intro w'
                              go_simp
                              with_reducible rfl
                            rotate_left
                            · simp only [Act.put,q1,q2,q3,i64_w,i32_w]
                              rfl
                            refine pure_ (i:=10) (N:=some 78) (v:=?_) (a':=?_) #[true,true,true,true,false,false,false,true,true,true,true,false,false,false,false,false] rfl rfl (any_of HT_.out (by kernel_rfl)) (fun _ _ _ h => h) (Or.inl ⟨by rfl,?_⟩) ?_ ?_
                            rotate_left
                            · intro w'
                              go_simp
                              with_reducible rfl
                            rotate_left
                            · simp only [Act.put,q1,q2,q3,i64_w,i32_w]
                              rfl
                            refine take_ (i:=4) (N:=some 72) (v:=?_) (a':=?_) #[true,true,true,true,true,false,false,true,true,true,true,false,false,false,false,false] rfl rfl (take_ofW HT_.out HW_.out (by kernel_rfl)) (fun _ _ _ h => h) (Or.inl ⟨by rfl,?_⟩) hHeld ?_ ?_
                            rotate_left
                            · rintro w' ⟨s0,s1,s2,s3⟩
                              go_simp
                              with_reducible rfl
                            rotate_left
                            · simp only [Act.put,q1,q2,q3,i64_w,i32_w]
                              rfl
                            refine pure_ (i:=5) (N:=some 73) (v:=?_) (a':=?_) #[true,true,true,true,true,true,false,true,true,true,true,false,false,false,false,false] rfl rfl (any_of HT_.out (by kernel_rfl)) (fun _ _ _ h => h) (Or.inl ⟨by rfl,?_⟩) ?_ ?_
                            rotate_left
                            · intro w'
                              go_simp
                              with_reducible rfl
                            rotate_left
                            · simp only [Act.put,q1,q2,q3,i64_w,i32_w]
                              rfl
                            refine pure_ (i:=6) (N:=some 74) (v:=?_) (a':=?_) #[true,true,true,true,true,true,true,true,true,true,true,false,false,false,false,false] rfl rfl (any_of HT_.out (by kernel_rfl)) (fun _ _ _ h => h) (Or.inl ⟨by rfl,?_⟩) ?_ ?_
                            rotate_left
                            · intro w'
                              go_simp
                              with_reducible rfl
                            rotate_left
                            · simp only [Act.put,q1,q2,q3,i64_w,i32_w]
                              rfl
                            refine pure_ (i:=14) (N:=some 13) (v:=?_) (a':=?_) #[true,true,true,true,true,true,true,true,true,true,true,false,false,false,true,false] rfl rfl (any_of HT_.out (by kernel_rfl)) (fun _ _ _ h => h) (Or.inl ⟨by rfl,?_⟩) ?_ ?_
                            rotate_left
                            · intro w'
                              go_simp
                              with_reducible rfl
                            rotate_left
                            · simp only [Act.put,q1,q2,q3,i64_w,i32_w]
                              rfl
                            refine take_ (i:=11) (N:=some 79) (v:=?_) (a':=?_) #[true,true,true,true,true,true,true,true,true,true,true,true,false,false,true,false] rfl rfl (take_ofW HT_.out HW_.out (by kernel_rfl)) (fun _ _ _ h => h) (Or.inl ⟨by rfl,?_⟩) hHeld ?_ ?_
                            rotate_left
                            · rintro w' ⟨s0,s1,s2,s3⟩
                              go_simp
                              with_reducible rfl
                            rotate_left
                            · simp only [Act.put,q1,q2,q3,i64_w,i32_w]
                              rfl
                            refine pure_ (i:=12) (N:=some 80) (v:=?_) (a':=?_) #[true,true,true,true,true,true,true,true,true,true,true,true,true,false,true,false] rfl rfl (any_of HT_.out (by kernel_rfl)) (fun _ _ _ h => h) (Or.inl ⟨by rfl,?_⟩) ?_ ?_
                            rotate_left
                            · intro w'
                              go_simp
                              with_reducible rfl
                            rotate_left
                            · simp only [Act.put,q1,q2,q3,i64_w,i32_w]
                              rfl
                            refine pure_ (i:=13) (N:=some 81) (v:=?_) (a':=?_) #[true,true,true,true,true,true,true,true,true,true,true,true,true,true,true,false] rfl rfl (any_of HT_.out (by kernel_rfl)) (fun _ _ _ h => h) (Or.inl ⟨by rfl,?_⟩) ?_ ?_
                            rotate_left
                            · intro w'
                              go_simp
                              with_reducible rfl
                            rotate_left
                            · simp only [Act.put,q1,q2,q3,i64_w,i32_w]
                              rfl
                            refine pure_ (i:=15) (N:=some 14) (v:=?_) (a':=?_) #[true,true,true,true,true,true,true,true,true,true,true,true,true,true,true,true] rfl rfl (any_of HT_.out (by kernel_rfl)) (fun _ _ _ h => h) (Or.inl ⟨by rfl,?_⟩) ?_ ?_
                            rotate_left
                            · intro w'
                              go_simp
                              with_reducible rfl
                            rotate_left
                            · simp only [Act.put,q1,q2,q3,i64_w,i32_w]
                              rfl
                            refine done_ (done_of HT_.out (by kernel_rfl)) ?_;obtain ⟨hcz67_0,hcz67_1,hcz67_2,hcz67_3⟩:=cq4 BK627.out;obtain ⟨hfz67_0,hfz67_1,hfz67_2,hfz67_3⟩:=fq4 BK627.out;have p640 : 0 ≤ ((ji36) : Int):=of_decide_eq_true (by first|(with_reducible assumption)|assumption);have q640 : (ji36) < (l0_3.length : Int):=of_decide_eq_true (by first|(with_reducible assumption)|assumption);obtain ⟨ad640,e640,hx640_0,hx640_1,hx640_2,hx640_3⟩:=at_T23 HR0_3.out (ji36) p640 q640
                            cases e640
                            replace hx640_0:=(HB.out.cell (World.block_lt_of_cell? w _ hx640_0)).trans hx640_0;replace hx640_1:=(HB.out.cell (World.block_lt_of_cell? w _ hx640_1)).trans hx640_1;replace hx640_2:=(HB.out.cell (World.block_lt_of_cell? w _ hx640_2)).trans hx640_2;replace hx640_3:=(HB.out.cell (World.block_lt_of_cell? w _ hx640_3)).trans hx640_3;replace p640:=eq_true p640;replace q640:=eq_true q640
                            try go_wp2_with (first|((with_reducible refine gate_dst (N:=15) rfl ?_);refine box_event ?hg (N:=15) ?hd (cs:=#[.int .i64 0,.int .i64 0,.int .i64 0,.int .i64 0]) (t:=23) ?hr ?_;(case hd => rfl);(case hg => rfl);(case hr => first|(go_simp;done)|(go_simp;rfl));intro gb641 hg w68 hbox hb;have BK641:=am (hbox);obtain ⟨h1_,GW641⟩:=sg (by repeat (first|(with_reducible first|exact HB.out|apply sa|apply sn|apply sd|refine sx ?_ GE627.out)|exact HB.out)) hb hg;replace HB:=h1_;clear h1_;have GE641:=GW641;have NB627_641:=nb (by exact BK627.out) hg;have NB641_627:=ng (by exact BK627.out) hg;replace BK627:=am (bw (by exact BK627.out) hb);clear hb hbox hg;have hnb69:=NB641_627.out;have hnc69:=NB627_641.out;obtain ⟨hcz70_0,hcz70_1,hcz70_2,hcz70_3⟩:=cq4 BK641.out;obtain ⟨hfz70_0,hfz70_1,hfz70_2,hfz70_3⟩:=fq4 BK641.out))
                            have n0_ : Aside0 (((((w68.setCell ⟨gb641,0,none⟩ (.int .i64 ((rd_T23 l0_3 (ji36)).f0))).setCell ⟨gb641,1,none⟩ (.int .i64 ((rd_T23 l0_3 (ji36)).f1))).setCell ⟨gb641,2,none⟩ (.int .i64 ((rd_T23 l0_3 (ji36)).f2))).setCell ⟨gb641,3,none⟩ (.int .i64 ((rd_T23 l0_3 (ji36)).f3))).heap[gb627]? = some (.cells #[.int .i64 a0_0,.int .i64 a0_1,.int .i64 a0_2,.slice (some ad640) l0_3.length c0_3] 43 (0,0))):=⟨by (with_reducible repeat (first|refine bn ?_ _|refine bd ?_|refine ba ?_ _|refine bf ?_ NB627_641.out _));exact BK627.out⟩;have n1_ : Aside0 (((((w68.setCell ⟨gb641,0,none⟩ (.int .i64 ((rd_T23 l0_3 (ji36)).f0))).setCell ⟨gb641,1,none⟩ (.int .i64 ((rd_T23 l0_3 (ji36)).f1))).setCell ⟨gb641,2,none⟩ (.int .i64 ((rd_T23 l0_3 (ji36)).f2))).setCell ⟨gb641,3,none⟩ (.int .i64 ((rd_T23 l0_3 (ji36)).f3))).heap[gb641]? = some (.cells #[.int .i64 ((rd_T23 l0_3 (ji36)).f0),.int .i64 ((rd_T23 l0_3 (ji36)).f1),.int .i64 ((rd_T23 l0_3 (ji36)).f2),.int .i64 ((rd_T23 l0_3 (ji36)).f3)] 23 (0,0))):=⟨(bp (bp (bp (bp BK641.out 0 _ rfl) 1 _ rfl) 2 _ rfl) 3 _ rfl)⟩;have n2_ : Aside0 (Below w.heap.size w ((((w68.setCell ⟨gb641,0,none⟩ (.int .i64 ((rd_T23 l0_3 (ji36)).f0))).setCell ⟨gb641,1,none⟩ (.int .i64 ((rd_T23 l0_3 (ji36)).f1))).setCell ⟨gb641,2,none⟩ (.int .i64 ((rd_T23 l0_3 (ji36)).f2))).setCell ⟨gb641,3,none⟩ (.int .i64 ((rd_T23 l0_3 (ji36)).f3)))):=⟨by repeat (first|(with_reducible first|exact HB.out|apply sa|apply sn|apply sd|refine sy ?_ (by assumption))|exact HB.out)⟩;(try clear BK627);(try clear BK641);(try clear HB);generalize ((((w68.setCell ⟨gb641,0,none⟩ (.int .i64 ((rd_T23 l0_3 (ji36)).f0))).setCell ⟨gb641,1,none⟩ (.int .i64 ((rd_T23 l0_3 (ji36)).f1))).setCell ⟨gb641,2,none⟩ (.int .i64 ((rd_T23 l0_3 (ji36)).f2))).setCell ⟨gb641,3,none⟩ (.int .i64 ((rd_T23 l0_3 (ji36)).f3))) = w71 at n0_ n1_ n2_ ⊢;have BK627:=n0_;have BK641:=n1_;have HB:=n2_;clear n0_ n1_ n2_;replace BK627:=am (bd BK627.out);replace BK641:=am (bd BK641.out);replace HB:=am (sd HB.out);have p646 : 0 ≤ ((ji40) : Int):=of_decide_eq_true (by first|(with_reducible assumption)|assumption);have q646 : (ji40) < (l0_3.length : Int):=of_decide_eq_true (by first|(with_reducible assumption)|assumption);obtain ⟨ad646,e646,hx646_0,hx646_1,hx646_2,hx646_3⟩:=at_T23 HR0_3.out (ji40) p646 q646;have hw646_3:=hx646_3;have hw646_2:=hx646_2;have hw646_1:=hx646_1;have hw646_0:=hx646_0;obtain rfl : ad640 = ad646:=(by injection e646);replace hx646_0:=(HB.out.cell (World.block_lt_of_cell? w _ hx646_0)).trans hx646_0;replace hx646_1:=(HB.out.cell (World.block_lt_of_cell? w _ hx646_1)).trans hx646_1;replace hx646_2:=(HB.out.cell (World.block_lt_of_cell? w _ hx646_2)).trans hx646_2;replace hx646_3:=(HB.out.cell (World.block_lt_of_cell? w _ hx646_3)).trans hx646_3;replace p646:=eq_true p646;replace q646:=eq_true q646;refine start_ (n:=27) (S:=fun w' => w'.cell? ⟨gb627,0,none⟩ = some (.int .i64 a0_0) ∧ w'.cell? ⟨gb627,1,none⟩ = some (.int .i64 a0_1) ∧ w'.cell? ⟨gb627,2,none⟩ = some (.int .i64 a0_2) ∧ w'.cell? ⟨gb627,3,none⟩ = some (.slice (some ad640) l0_3.length c0_3) ∧ w'.cell? (ad640.add (((ji40)).toNat * 4)) = some (.int .i64 ((rd_T23 l0_3 (ji40)).f0)) ∧ w'.cell? ⟨(ad640.add (((ji40)).toNat * 4)).block,(ad640.add (((ji40)).toNat * 4)).off + 1,none⟩ = some (.int .i64 ((rd_T23 l0_3 (ji40)).f1)) ∧ w'.cell? ⟨(ad640.add (((ji40)).toNat * 4)).block,(ad640.add (((ji40)).toNat * 4)).off + 2,none⟩ = some (.int .i64 ((rd_T23 l0_3 (ji40)).f2)) ∧ w'.cell? ⟨(ad640.add (((ji40)).toNat * 4)).block,(ad640.add (((ji40)).toNat * 4)).off + 3,none⟩ = some (.int .i64 ((rd_T23 l0_3 (ji40)).f3))) (ds:=[]) #[false,false,false,false,false,false,false,false,false,false,false,false,false,false,false,false,false,false,false,false,false,false,false,false,false,false,false] (by kernel_rfl) rfl rfl ⟨(bc BK627.out 0).trans rfl,(bc BK627.out 1).trans rfl,(bc BK627.out 2).trans rfl,(bc BK627.out 3).trans rfl,((HB.out.cell (World.block_lt_of_cell? w _ hw646_0)).trans hw646_0),((HB.out.cell (World.block_lt_of_cell? w _ hw646_1)).trans hw646_1),((HB.out.cell (World.block_lt_of_cell? w _ hw646_2)).trans hw646_2),((HB.out.cell (World.block_lt_of_cell? w _ hw646_3)).trans hw646_3)⟩ (fun hHeld => ?_);refine with_tabW celluloidlaw20_PaintTiles.tab8 celluloidlaw20_PaintTiles.bits8 (fun HT_ HW_ => ?_);generalize w71.drew = w72 at BK627 BK641 HB hx646_0 hx646_1 hx646_2 hx646_3 hHeld ⊢;refine pure_ (i:=1) (N:=some 103) (v:=?_) (a':=?_) #[false,true,false,false,false,false,false,false,false,false,false,false,false,false,false,false,false,false,false,false,false,false,false,false,false,false,false] rfl rfl (any_of HT_.out (by kernel_rfl)) (fun _ _ _ h => h) (Or.inl ⟨by rfl,?_⟩) ?_ ?_
                            rotate_left
                            · intro w'
                              go_simp
                              with_reducible rfl
                            rotate_left
                            · simp only [Act.put,q1,q2,q3,i64_w,i32_w]
                              rfl
                            refine pure_ (i:=2) (N:=some 104) (v:=?_) (a':=?_) #[false,true,true,false,false,false,false,false,false,false,false,false,false,false,false,false,false,false,false,false,false,false,false,false,false,false,false] rfl rfl (any_of HT_.out (by kernel_rfl)) (fun _ _ _ h => h) (Or.inl ⟨by rfl,?_⟩) ?_ ?_
                            rotate_left
                            · intro w'
                              go_simp
                              with_reducible rfl
                            rotate_left
                            · simp only [Act.put,q1,q2,q3,i64_w,i32_w]
                              rfl
                            refine pure_ (i:=4) (N:=some 106) (v:=?_) (a':=?_) #[false,true,true,false,true,false,false,false,false,false,false,false,false,false,false,false,false,false,false,false,false,false,false,false,false,false,false] rfl rfl (any_of HT_.out (by kernel_rfl)) (fun _ _ _ h => h) (Or.inl ⟨by rfl,?_⟩) ?_ ?_
                            rotate_left
                            · intro w'
                              go_simp
                              with_reducible rfl
                            rotate_left
                            · simp only [Act.put,q1,q2,q3,i64_w,i32_w]
                              rfl
                            refine pure_ (i:=6) (N:=some 108) (v:=?_) (a':=?_) #[false,true,true,false,true,false,true,false,false,false,false,false,false,false,false,false,false,false,false,false,false,false,false,false,false,false,false] rfl rfl (any_of HT_.out (by kernel_rfl)) (fun _ _ _ h => h) (Or.inl ⟨by rfl,?_⟩) ?_ ?_
                            rotate_left
                            · intro w'
                              go_simp
                              with_reducible rfl
                            rotate_left
                            · simp only [Act.put,q1,q2,q3,i64_w,i32_w]
                              rfl
                            refine pure_ (i:=7) (N:=some 109) (v:=?_) (a':=?_) #[false,true,true,false,true,false,true,true,false,false,false,false,false,false,false,false,false,false,false,false,false,false,false,false,false,false,false] rfl rfl (any_of HT_.out (by kernel_rfl)) (fun _ _ _ h => h) (Or.inl ⟨by rfl,?_⟩) ?_ ?_
                            rotate_left
                            · intro w'
                              go_simp
                              with_reducible rfl
                            rotate_left
                            · simp only [Act.put,q1,q2,q3,i64_w,i32_w]
                              rfl
                            refine pure_ (i:=10) (N:=some 112) (v:=?_) (a':=?_) #[false,true,true,false,true,false,true,true,false,false,true,false,false,false,false,false,false,false,false,false,false,false,false,false,false,false,false] rfl rfl (any_of HT_.out (by kernel_rfl)) (fun _ _ _ h => h) (Or.inl ⟨by rfl,?_⟩) ?_ ?_
                            rotate_left
                            · intro w'
                              go_simp
                              with_reducible rfl
                            rotate_left
                            · simp only [Act.put,q1,q2,q3,i64_w,i32_w]
                              rfl
                            refine take_ (i:=0) (N:=some 102) (v:=?_) (a':=?_) #[true,true,true,false,true,false,true,true,false,false,true,false,false,false,false,false,false,false,false,false,false,false,false,false,false,false,false] rfl rfl (take_ofW HT_.out HW_.out (by kernel_rfl)) (fun _ _ _ h => h) (Or.inl ⟨by rfl,?_⟩) hHeld ?_ ?_
                            rotate_left
                            · rintro w' ⟨s0,s1,s2,s3,s4,s5,s6,s7⟩
                              go_simp
                              with_reducible rfl
                            rotate_left
                            · simp only [Act.put,q1,q2,q3,i64_w,i32_w]
                              rfl
                            refine take_ (i:=5) (N:=some 107) (v:=?_) (a':=?_) #[true,true,true,false,true,true,true,true,false,false,true,false,false,false,false,false,false,false,false,false,false,false,false,false,false,false,false] rfl rfl (take_ofW HT_.out HW_.out (by kernel_rfl)) (fun _ _ _ h => h) (Or.inl ⟨by rfl,?_⟩) hHeld ?_ ?_
                            rotate_left
                            · rintro w' ⟨s0,s1,s2,s3,s4,s5,s6,s7⟩
                              go_simp
                              with_reducible rfl
                            rotate_left
                            · simp only [Act.put,q1,q2,q3,i64_w,i32_w]
                              rfl
                            refine take_ (i:=8) (N:=some 110) (v:=?_) (a':=?_) #[true,true,true,false,true,true,true,true,true,false,true,false,false,false,false,false,false,false,false,false,false,false,false,false,false,false,false] rfl rfl (take_ofW HT_.out HW_.out (by kernel_rfl)) (fun _ _ _ h => h) (Or.inl ⟨by rfl,?_⟩) hHeld ?_ ?_
                            rotate_left
                            · rintro w' ⟨s0,s1,s2,s3,s4,s5,s6,s7⟩
                              go_simp
                              with_reducible rfl
                            rotate_left
                            · simp only [Act.put,q1,q2,q3,i64_w,i32_w]
                              rfl
                            refine pure_ (i:=9) (N:=some 111) (v:=?_) (a':=?_) #[true,true,true,false,true,true,true,true,true,true,true,false,false,false,false,false,false,false,false,false,false,false,false,false,false,false,false] rfl rfl (any_of HT_.out (by kernel_rfl)) (fun _ _ _ h => h) (Or.inl ⟨by rfl,?_⟩) ?_ ?_
                            rotate_left
                            · intro w'
                              go_simp
                              with_reducible rfl
                            rotate_left
                            · simp only [Act.put,q1,q2,q3,i64_w,i32_w]
                              rfl
                            refine pure_ (i:=11) (N:=some 113) (v:=?_) (a':=?_) #[true,true,true,false,true,true,true,true,true,true,true,true,false,false,false,false,false,false,false,false,false,false,false,false,false,false,false] rfl rfl (any_of HT_.out (by kernel_rfl)) (fun _ _ _ h => h) (Or.inl ⟨by rfl,?_⟩) ?_ ?_
                            rotate_left
                            · intro w'
                              go_simp
                              with_reducible rfl
                            rotate_left
                            · simp only [Act.put,q1,q2,q3,i64_w,i32_w]
                              rfl
                            refine pure_ (i:=12) (N:=some 114) (v:=?_) (a':=?_) #[true,true,true,false,true,true,true,true,true,true,true,true,true,false,false,false,false,false,false,false,false,false,false,false,false,false,false] rfl rfl (any_of HT_.out (by kernel_rfl)) (fun _ _ _ h => h) (Or.inl ⟨by rfl,?_⟩) ?_ ?_
                            rotate_left
                            · intro w'
                              go_simp
                              with_reducible rfl
                            rotate_left
                            · simp only [Act.put,q1,q2,q3,i64_w,i32_w]
                              rfl
                            refine take_ (i:=13) (N:=some 115) (v:=?_) (a':=?_) #[true,true,true,false,true,true,true,true,true,true,true,true,true,true,false,false,false,false,false,false,false,false,false,false,false,false,false] rfl rfl (take_ofW HT_.out HW_.out (by kernel_rfl)) (fun _ _ _ h => h) (Or.inl ⟨by rfl,?_⟩) hHeld ?_ ?_
                            rotate_left
                            · rintro w' ⟨s0,s1,s2,s3,s4,s5,s6,s7⟩
                              go_simp
                              with_reducible rfl
                            rotate_left
                            · simp only [Act.put,q1,q2,q3,i64_w,i32_w]
                              rfl
                            refine one_ (i:=3) (N:=some 105) #[true,true,true,true,true,true,true,true,true,true,true,true,true,true,false,false,false,false,false,false,false,false,false,false,false,false,false] rfl rfl (one_of HT_.out (by kernel_rfl)) (by decide) (fun K hK => ?_);refine goes_ Try.func23 (by kernel_rfl) rfl #[.agg #[.int .i64 a0_0,.int .i64 a0_1,.int .i64 a0_2,.slice (some ad640) l0_3.length c0_3],.int .i64 64,.int .i64 (wrap64 ((Int.tmod (wrap64 (a1)) a0_1) + (wrap64 ((wrap64 (a3)) * a0_1)))),.int .i64 (wrap64 ((Int.tmod (wrap64 (a2)) a0_2) + (wrap64 ((wrap64 (a4)) * a0_2))))] (by rfl) rfl rfl (by (try simp only [List.map_toArray,List.map_cons,List.map_nil]);first|done|rfl|(simp only [List.length_drop,List.length_take];rfl)) ?_
                            with_reducible refine (celluloidlaw20_at.calls kj17 a0_0 a0_1 a0_2 (fun k_ => k_ < w.heap.size) _ _ l0_3 64 (wrap64 ((Int.tmod (wrap64 (a1)) a0_1) + (wrap64 ((wrap64 (a3)) * a0_1)))) (wrap64 ((Int.tmod (wrap64 (a2)) a0_2) + (wrap64 ((wrap64 (a4)) * a0_2)))) t642 t643 t644 t645 _ ?side1 A39.out).mono ?_
                            (case side1 => exact Kd.V_mk HC0_3.out (Kd.F_below (Kd.C_F k23_heap HR0_3.out) (by repeat (first|(with_reducible first|exact HB.out|apply sa|apply sn|apply sd|refine sy ?_ (by assumption))|exact HB.out))))
                            rintro e w73 ⟨rfl,hb⟩
                            refine ⟨_,rfl,?_⟩;replace BK627:=am (bw (by exact BK627.out) hb);replace BK641:=am (bw (by exact BK641.out) hb);replace HB:=am (ss (by repeat (first|(with_reducible first|exact HB.out|apply sa|apply sn|apply sd|refine sy ?_ (by assumption))|exact HB.out)) hb);(try clear hb);(try clear hb2);(try clear hk);(try clear hi);refine hK.out _ _ ⟨(bc BK627.out 0).trans rfl,(bc BK627.out 1).trans rfl,(bc BK627.out 2).trans rfl,(bc BK627.out 3).trans rfl,((HB.out.cell (World.block_lt_of_cell? w _ hw646_0)).trans hw646_0),((HB.out.cell (World.block_lt_of_cell? w _ hw646_1)).trans hw646_1),((HB.out.cell (World.block_lt_of_cell? w _ hw646_2)).trans hw646_2),((HB.out.cell (World.block_lt_of_cell? w _ hw646_3)).trans hw646_3)⟩ (fun hHeld => ?_);clear hK K;refine norm_ (a':=?_) ?_ ?_
                            rotate_left
                            · show Act.put _ (some 105) _ = _
                              simp only [Act.put,q1,q2,q3,i64_w,i32_w]
                              rfl
                            refine pure_ (i:=14) (N:=some 116) (v:=?_) (a':=?_) #[true,true,true,true,true,true,true,true,true,true,true,true,true,true,true,false,false,false,false,false,false,false,false,false,false,false,false] rfl rfl (any_of HT_.out (by kernel_rfl)) (fun _ _ _ h => h) (Or.inl ⟨by rfl,?_⟩) ?_ ?_
                            rotate_left
                            · intro w'
                              go_simp
                              with_reducible rfl
                            rotate_left
                            · simp only [Act.put,q1,q2,q3,i64_w,i32_w]
                              rfl
                            refine pure_ (i:=15) (N:=some 117) (v:=?_) (a':=?_) #[true,true,true,true,true,true,true,true,true,true,true,true,true,true,true,true,false,false,false,false,false,false,false,false,false,false,false] rfl rfl (any_of HT_.out (by kernel_rfl)) (fun _ _ _ h => h) (Or.inl ⟨by rfl,?_⟩) ?_ ?_
                            rotate_left
                            · intro w'
                              go_simp
                              with_reducible rfl
                            rotate_left
                            · simp only [Act.put,q1,q2,q3,i64_w,i32_w]
                              rfl
                            refine pure_ (i:=16) (N:=some 118) (v:=undef) (a':=?_) #[true,true,true,true,true,true,true,true,true,true,true,true,true,true,true,true,true,false,false,false,false,false,false,false,false,false,false] rfl rfl (any_of HT_.out (by kernel_rfl)) (fun _ _ _ h => h) (Or.inr ⟨by rfl,rfl⟩) ?_ ?_
                            rotate_left
                            · simp only [Act.put,q1,q2,q3,i64_w,i32_w]
                              rfl
                            refine pure_ (i:=17) (N:=some 119) (v:=undef) (a':=?_) #[true,true,true,true,true,true,true,true,true,true,true,true,true,true,true,true,true,true,false,false,false,false,false,false,false,false,false] rfl rfl (any_of HT_.out (by kernel_rfl)) (fun _ _ _ h => h) (Or.inr ⟨by rfl,rfl⟩) ?_ ?_
                            rotate_left
                            · simp only [Act.put,q1,q2,q3,i64_w,i32_w]
                              rfl
                            refine pure_ (i:=18) (N:=some 120) (v:=undef) (a':=?_) #[true,true,true,true,true,true,true,true,true,true,true,true,true,true,true,true,true,true,true,false,false,false,false,false,false,false,false] rfl rfl (any_of HT_.out (by kernel_rfl)) (fun _ _ _ h => h) (Or.inr ⟨by rfl,rfl⟩) ?_ ?_
                            rotate_left
                            · simp only [Act.put,q1,q2,q3,i64_w,i32_w]
                              rfl
                            refine pure_ (i:=19) (N:=some 121) (v:=undef) (a':=?_) #[true,true,true,true,true,true,true,true,true,true,true,true,true,true,true,true,true,true,true,true,false,false,false,false,false,false,false] rfl rfl (any_of HT_.out (by kernel_rfl)) (fun _ _ _ h => h) (Or.inr ⟨by rfl,rfl⟩) ?_ ?_
                            rotate_left
                            · simp only [Act.put,q1,q2,q3,i64_w,i32_w]
                              rfl
                            refine pure_ (i:=20) (N:=some 122) (v:=undef) (a':=?_) #[true,true,true,true,true,true,true,true,true,true,true,true,true,true,true,true,true,true,true,true,true,false,false,false,false,false,false] rfl rfl (any_of HT_.out (by kernel_rfl)) (fun _ _ _ h => h) (Or.inr ⟨by rfl,rfl⟩) ?_ ?_
                            rotate_left
                            · simp only [Act.put,q1,q2,q3,i64_w,i32_w]
                              rfl
                            refine pure_ (i:=21) (N:=some 123) (v:=undef) (a':=?_) #[true,true,true,true,true,true,true,true,true,true,true,true,true,true,true,true,true,true,true,true,true,true,false,false,false,false,false] rfl rfl (any_of HT_.out (by kernel_rfl)) (fun _ _ _ h => h) (Or.inr ⟨by rfl,rfl⟩) ?_ ?_
                            rotate_left
                            · simp only [Act.put,q1,q2,q3,i64_w,i32_w]
                              rfl
                            refine pure_ (i:=22) (N:=some 124) (v:=?_) (a':=?_) #[true,true,true,true,true,true,true,true,true,true,true,true,true,true,true,true,true,true,true,true,true,true,true,false,false,false,false] rfl rfl (any_of HT_.out (by kernel_rfl)) (fun _ _ _ h => h) (Or.inl ⟨by rfl,?_⟩) ?_ ?_
                            rotate_left
                            · intro w'
                              go_simp
                              with_reducible rfl
                            rotate_left
                            · simp only [Act.put,q1,q2,q3,i64_w,i32_w]
                              rfl
                            refine pure_ (i:=23) (N:=some 125) (v:=?_) (a':=?_) #[true,true,true,true,true,true,true,true,true,true,true,true,true,true,true,true,true,true,true,true,true,true,true,true,false,false,false] rfl rfl (any_of HT_.out (by kernel_rfl)) (fun _ _ _ h => h) (Or.inl ⟨by rfl,?_⟩) ?_ ?_
                            rotate_left
                            · intro w'
                              go_simp
                              with_reducible rfl
                            rotate_left
                            · simp only [Act.put,q1,q2,q3,i64_w,i32_w]
                              rfl
                            refine pure_ (i:=24) (N:=some 126) (v:=undef) (a':=?_) #[true,true,true,true,true,true,true,true,true,true,true,true,true,true,true,true,true,true,true,true,true,true,true,true,true,false,false] rfl rfl (any_of HT_.out (by kernel_rfl)) (fun _ _ _ h => h) (Or.inr ⟨by rfl,rfl⟩) ?_ ?_
                            rotate_left
                            · simp only [Act.put,q1,q2,q3,i64_w,i32_w]
                              rfl
                            refine pure_ (i:=25) (N:=some 127) (v:=?_) (a':=?_) #[true,true,true,true,true,true,true,true,true,true,true,true,true,true,true,true,true,true,true,true,true,true,true,true,true,true,false] rfl rfl (any_of HT_.out (by kernel_rfl)) (fun _ _ _ h => h) (Or.inl ⟨by rfl,?_⟩) ?_ ?_
                            rotate_left
                            · intro w'
                              go_simp
                              with_reducible rfl
                            rotate_left
                            · simp only [Act.put,q1,q2,q3,i64_w,i32_w]
                              rfl
                            refine pure_ (i:=26) (N:=some 10) (v:=?_) (a':=?_) #[true,true,true,true,true,true,true,true,true,true,true,true,true,true,true,true,true,true,true,true,true,true,true,true,true,true,true] rfl rfl (any_of HT_.out (by kernel_rfl)) (fun _ _ _ h => h) (Or.inl ⟨by rfl,?_⟩) ?_ ?_
                            rotate_left
                            · intro w'
                              go_simp
                              with_reducible rfl
                            rotate_left
                            · simp only [Act.put,q1,q2,q3,i64_w,i32_w]
                              rfl
                            refine done_ (done_of HT_.out (by kernel_rfl)) ?_
                            try go_wp2
                            go_ret
                            exact ⟨by first|rfl|(simp [errW_none,errW_some] <;> rfl)|(simp only [← hji32, ← hji33, ← hji34, ← hji35, ← hji36, ← hji40];first|rfl|(simp [errW_none,errW_some] <;> rfl))|(simp [*,errW_none,errW_some] <;> rfl),by repeat (first|(with_reducible first|exact HB.out|apply sa|apply sn|apply sd|refine sy ?_ (by assumption))|exact HB.out)⟩
                        · rw [if_neg c42] at H
                          exact absurd H (by simp)
                      · rw [if_neg c41] at H
                        exact absurd H (by simp)
                    · rw [if_neg c38] at H
                      exact absurd H (by simp)
                  · rw [if_neg c37] at H
                    exact absurd H (by simp)

end Go.Proofs.Ytmdfcinjmlagcaa.P
