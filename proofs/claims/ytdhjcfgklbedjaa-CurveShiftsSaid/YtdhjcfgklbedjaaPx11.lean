/- Printed by printx.py (wip/tool) out of the translation: plain functions that tell what the program answers, and the proofs that the program comes to these answers, for all arguments of their kinds. Lean checks it. -/
import Derived.Test.YtdhjcfgklbedjaaShort
import Derived.Test.YtdhjcfgklbedjaaPx0
import Derived.Test.YtdhjcfgklbedjaaPx2
import Derived.Test.YtdhjcfgklbedjaaPx4
import Derived.Test.YtdhjcfgklbedjaaPx5
namespace Go.Proofs.Ytdhjcfgklbedjaa.P
open Go.RowKit Go.Proofs.YtdhjcfgklbedjaaW.PrintWords Go.Proofs.YtdhjcfgklbedjaaW.PrintLast Go.Proofs.YtdhjcfgklbedjaaW.PrintMore
attribute [local go_sem] max2_int min2_int max_two min_two max_three min_three max_four min_four max_five min_five max_six min_six   -- for this text's walks alone
set_option linter.unusedVariables false
set_option linter.unusedSimpArgs false

/-! ### celluloidlaw16_CurveShifts: function 7 -/
mutual
def celluloidlaw16_CurveShifts.j0 : Nat → Bool → Int → Int → Int → Int → Int → Int → Int → Int → Int → Int → Int → Int → Int → Int → Option (Bool)
  | 0,_,_,_,_,_,_,_,_,_,_,_,_,_,_,_ => none
  | k + 1,x69,x273000,x273001,x274000,x274001,x275000,x275001,x276000,x276001,x277000,x277001,x278000,x278001,x279000,x279001 => if x69 = true then ((celluloidlaw16_awake.f k).bind fun t281 => (some t281)) else ((curve_Flat.f k x273000 x273001 x274000 x274001 x275000 x275001).bind fun t282 => ((curve_Flat.f k x277000 x277001 x278000 x278001 x279000 x279001).bind fun t285 => (if (t282.length : Int) = (t285.length : Int) then (if (t282.length : Int) = 0 then (celluloidlaw16_CurveShifts.j1 k t282 t285 true x276000 x276001) else ((curve_Bend.f x273000 x273001 x274000 x274001 x275000 x275001).bind fun t288 => ((curve_Bend.f x277000 x277001 x278000 x278001 x279000 x279001).bind fun t289 => (celluloidlaw16_CurveShifts.j1 k t282 t285 (t288 != t289) x276000 x276001)))) else (celluloidlaw16_CurveShifts.j1 k t282 t285 true x276000 x276001))))
def celluloidlaw16_CurveShifts.j1 : Nat → List (S23) → List (S23) → Bool → Int → Int → Option (Bool)
  | 0,_,_,_,_,_ => none
  | k + 1,x15,x16,x99,x276000,x276001 => if x99 = true then (some false) else (celluloidlaw16_CurveShifts.l0 k x15 x16 (x15.length : Int) 0 x276000 x276001)
def celluloidlaw16_CurveShifts.l0 : Nat → List (S23) → List (S23) → Int → Int → Int → Int → Option (Bool)
  | 0,_,_,_,_,_,_ => none
  | k + 1,x15,x16,x101,x102,x276000,x276001 => if x102 < x101 then (if 0 ≤ x102 then (if x102 < (x16.length : Int) then (if x102 < (x15.length : Int) then (if ((rd_T23 x16 x102).f0) = (wrap64 (((rd_T23 x15 x102).f0) + x276000)) then (if ((rd_T23 x16 x102).f1) = (wrap64 (((rd_T23 x15 x102).f1) + x276001)) then (celluloidlaw16_CurveShifts.l0 k x15 x16 x101 (wrap64 (x102 + 1)) x276000 x276001) else (some false)) else (some false)) else (none)) else (none)) else (none)) else ((celluloidlaw16_awake.f k).bind fun t294 => (some t294))
end
def celluloidlaw16_CurveShifts.f (k : Nat) (a0_0 : Int) (a0_1 : Int) (a1_0 : Int) (a1_1 : Int) (a2_0 : Int) (a2_1 : Int) (a3 : Int) (a4 : Int) : Option (Bool):=(celluloidlaw16_right.f k a0_0 a0_1 a1_0 a1_1 a2_0 a2_1).bind fun t279 => (if t279 = true then ((celluloidlaw16_right.f k (wrap64 (a0_0 + (wrap64 (2 * (wrap64 (a3)))))) (wrap64 (a0_1 + (wrap64 (2 * (wrap64 (a4)))))) (wrap64 (a1_0 + (wrap64 (2 * (wrap64 (a3)))))) (wrap64 (a1_1 + (wrap64 (2 * (wrap64 (a4)))))) (wrap64 (a2_0 + (wrap64 (2 * (wrap64 (a3)))))) (wrap64 (a2_1 + (wrap64 (2 * (wrap64 (a4))))))).bind fun t280 => (celluloidlaw16_CurveShifts.j0 k (!t280) a0_0 a0_1 a1_0 a1_1 a2_0 a2_1 (wrap64 (2 * (wrap64 (a3)))) (wrap64 (2 * (wrap64 (a4)))) (wrap64 (a0_0 + (wrap64 (2 * (wrap64 (a3)))))) (wrap64 (a0_1 + (wrap64 (2 * (wrap64 (a4)))))) (wrap64 (a1_0 + (wrap64 (2 * (wrap64 (a3)))))) (wrap64 (a1_1 + (wrap64 (2 * (wrap64 (a4)))))) (wrap64 (a2_0 + (wrap64 (2 * (wrap64 (a3)))))) (wrap64 (a2_1 + (wrap64 (2 * (wrap64 (a4)))))))) else (celluloidlaw16_CurveShifts.j0 k true a0_0 a0_1 a1_0 a1_1 a2_0 a2_1 (wrap64 (2 * (wrap64 (a3)))) (wrap64 (2 * (wrap64 (a4)))) (wrap64 (a0_0 + (wrap64 (2 * (wrap64 (a3)))))) (wrap64 (a0_1 + (wrap64 (2 * (wrap64 (a4)))))) (wrap64 (a1_0 + (wrap64 (2 * (wrap64 (a3)))))) (wrap64 (a1_1 + (wrap64 (2 * (wrap64 (a4)))))) (wrap64 (a2_0 + (wrap64 (2 * (wrap64 (a3)))))) (wrap64 (a2_1 + (wrap64 (2 * (wrap64 (a4))))))))
theorem celluloidlaw16_CurveShifts.mono_l : ∀ k,(∀ y0 y1 y2 y3 y4 y5 y6 y7 y8 y9 y10 y11 y12 y13 y14,LeO (celluloidlaw16_CurveShifts.j0 k y0 y1 y2 y3 y4 y5 y6 y7 y8 y9 y10 y11 y12 y13 y14) (celluloidlaw16_CurveShifts.j0 (k + 1) y0 y1 y2 y3 y4 y5 y6 y7 y8 y9 y10 y11 y12 y13 y14)) ∧ (∀ y0 y1 y2 y3 y4,LeO (celluloidlaw16_CurveShifts.j1 k y0 y1 y2 y3 y4) (celluloidlaw16_CurveShifts.j1 (k + 1) y0 y1 y2 y3 y4)) ∧ (∀ y0 y1 y2 y3 y4 y5,LeO (celluloidlaw16_CurveShifts.l0 k y0 y1 y2 y3 y4 y5) (celluloidlaw16_CurveShifts.l0 (k + 1) y0 y1 y2 y3 y4 y5))
  | 0 => ⟨fun _ _ _ _ _ _ _ _ _ _ _ _ _ _ _ r h => by simp [celluloidlaw16_CurveShifts.j0] at h,fun _ _ _ _ _ r h => by simp [celluloidlaw16_CurveShifts.j1] at h,fun _ _ _ _ _ _ r h => by simp [celluloidlaw16_CurveShifts.l0] at h⟩
  | k + 1 => by
    obtain ⟨ih0,ih1,ih2⟩:=celluloidlaw16_CurveShifts.mono_l k;refine ⟨?_,?_,?_⟩
    · intro y0 y1 y2 y3 y4 y5 y6 y7 y8 y9 y10 y11 y12 y13 y14
      unfold celluloidlaw16_CurveShifts.j0
      repeat' first
      | (with_reducible exact ih0 _ _ _ _ _ _ _ _ _ _ _ _ _ _ _)
      | (with_reducible exact ih1 _ _ _ _ _)
      | (with_reducible exact ih2 _ _ _ _ _ _)
      | (with_reducible exact celluloidlaw16_awake.mono _)
      | (with_reducible exact celluloidlaw16_right.mono _ _ _ _ _ _ _)
      | (with_reducible exact curve_Flat.mono _ _ _ _ _ _ _)
      | (with_reducible exact LeO.refl _)
      | (with_reducible exact LeO.none _)
      | (with_reducible refine LeO.ite ?_ ?_)
      | (with_reducible refine LeO.bind ?_ (fun _ => ?_))
      | exact ih0 _ _ _ _ _ _ _ _ _ _ _ _ _ _ _
      | exact ih1 _ _ _ _ _
      | exact ih2 _ _ _ _ _ _
      | exact celluloidlaw16_awake.mono _
      | exact celluloidlaw16_right.mono _ _ _ _ _ _ _
      | exact curve_Flat.mono _ _ _ _ _ _ _
      | exact LeO.none _
      | refine LeO.ite ?_ ?_
      | refine LeO.bind ?_ (fun _ => ?_)
    · intro y0 y1 y2 y3 y4
      unfold celluloidlaw16_CurveShifts.j1
      repeat' first
      | (with_reducible exact ih0 _ _ _ _ _ _ _ _ _ _ _ _ _ _ _)
      | (with_reducible exact ih1 _ _ _ _ _)
      | (with_reducible exact ih2 _ _ _ _ _ _)
      | (with_reducible exact celluloidlaw16_awake.mono _)
      | (with_reducible exact celluloidlaw16_right.mono _ _ _ _ _ _ _)
      | (with_reducible exact curve_Flat.mono _ _ _ _ _ _ _)
      | (with_reducible exact LeO.refl _)
      | (with_reducible exact LeO.none _)
      | (with_reducible refine LeO.ite ?_ ?_)
      | (with_reducible refine LeO.bind ?_ (fun _ => ?_))
      | exact ih0 _ _ _ _ _ _ _ _ _ _ _ _ _ _ _
      | exact ih1 _ _ _ _ _
      | exact ih2 _ _ _ _ _ _
      | exact celluloidlaw16_awake.mono _
      | exact celluloidlaw16_right.mono _ _ _ _ _ _ _
      | exact curve_Flat.mono _ _ _ _ _ _ _
      | exact LeO.none _
      | refine LeO.ite ?_ ?_
      | refine LeO.bind ?_ (fun _ => ?_)
    · intro y0 y1 y2 y3 y4 y5
      unfold celluloidlaw16_CurveShifts.l0
      repeat' first
      | (with_reducible exact ih0 _ _ _ _ _ _ _ _ _ _ _ _ _ _ _)
      | (with_reducible exact ih1 _ _ _ _ _)
      | (with_reducible exact ih2 _ _ _ _ _ _)
      | (with_reducible exact celluloidlaw16_awake.mono _)
      | (with_reducible exact celluloidlaw16_right.mono _ _ _ _ _ _ _)
      | (with_reducible exact curve_Flat.mono _ _ _ _ _ _ _)
      | (with_reducible exact LeO.refl _)
      | (with_reducible exact LeO.none _)
      | (with_reducible refine LeO.ite ?_ ?_)
      | (with_reducible refine LeO.bind ?_ (fun _ => ?_))
      | exact ih0 _ _ _ _ _ _ _ _ _ _ _ _ _ _ _
      | exact ih1 _ _ _ _ _
      | exact ih2 _ _ _ _ _ _
      | exact celluloidlaw16_awake.mono _
      | exact celluloidlaw16_right.mono _ _ _ _ _ _ _
      | exact curve_Flat.mono _ _ _ _ _ _ _
      | exact LeO.none _
      | refine LeO.ite ?_ ?_
      | refine LeO.bind ?_ (fun _ => ?_)
theorem celluloidlaw16_CurveShifts.mono : ∀ a0 a1 a2 a3 a4 a5 a6 a7 k,LeO (celluloidlaw16_CurveShifts.f k a0 a1 a2 a3 a4 a5 a6 a7) (celluloidlaw16_CurveShifts.f (k + 1) a0 a1 a2 a3 a4 a5 a6 a7):=by
  intro a0 a1 a2 a3 a4 a5 a6 a7 k
  obtain ⟨ih0,ih1,ih2⟩:=celluloidlaw16_CurveShifts.mono_l k
  unfold celluloidlaw16_CurveShifts.f
  repeat' first
      | (with_reducible exact ih0 _ _ _ _ _ _ _ _ _ _ _ _ _ _ _)
      | (with_reducible exact ih1 _ _ _ _ _)
      | (with_reducible exact ih2 _ _ _ _ _ _)
      | (with_reducible exact celluloidlaw16_awake.mono _)
      | (with_reducible exact celluloidlaw16_right.mono _ _ _ _ _ _ _)
      | (with_reducible exact curve_Flat.mono _ _ _ _ _ _ _)
      | (with_reducible exact LeO.refl _)
      | (with_reducible exact LeO.none _)
      | (with_reducible refine LeO.ite ?_ ?_)
      | (with_reducible refine LeO.bind ?_ (fun _ => ?_))
      | exact ih0 _ _ _ _ _ _ _ _ _ _ _ _ _ _ _
      | exact ih1 _ _ _ _ _
      | exact ih2 _ _ _ _ _ _
      | exact celluloidlaw16_awake.mono _
      | exact celluloidlaw16_right.mono _ _ _ _ _ _ _
      | exact curve_Flat.mono _ _ _ _ _ _ _
      | exact LeO.none _
      | refine LeO.ite ?_ ?_
      | refine LeO.bind ?_ (fun _ => ?_)
def celluloidlaw16_CurveShifts.T2 : Bool × List (List Nat × List Nat):=(true,[([],[]),([0],[0]),([],[]),([2],[2]),([1,3],[1,3]),([],[]),([5],[5]),([],[]),([7],[7]),([6,8],[6,8]),([4,9],[4,9]),([],[]),([11],[11]),([],[]),([13],[13]),([12,14],[12,14]),([],[]),([16],[16]),([],[]),([18],[18]),([17,19],[17,19]),([15,20],[15,20]),([],[]),([22],[22]),([],[]),([24],[24]),([23,25],[23,25]),([],[]),([27],[27]),([],[]),([29],[29]),([28,30],[28,30]),([26,31],[26,31]),([],[]),([],[]),([],[]),([33,10,0,1,2,3,4,5,6,7,8,9,10,33,34,35],[10,33]),([34,21,36,0,1,2,3,4,5,6,7,8,9,10,11,12,13,14,15,16,17,18,19,20,21,33,34,35,36],[21,34]),([35,32,37,0,1,2,3,4,5,6,7,8,9,10,11,12,13,14,15,16,17,18,19,20,21,22,23,24,25,26,27,28,29,30,31,32,33,34,35,36,37],[32,35])])
def celluloidlaw16_CurveShifts.B2 : List Nat:=[0,1,0,4,15,0,32,0,128,480,1023,0,2048,0,8192,30720,0,65536,0,262144,983040,2095104,0,4194304,0,16777216,62914560,0,134217728,0,536870912,2013265920,4290772992,0,0,0,60129544191,128853213183,274877906943]
theorem celluloidlaw16_CurveShifts.tab2 : rtab .any (opsOf Try.f7 2) = celluloidlaw16_CurveShifts.T2:=by kernel_rfl
theorem celluloidlaw16_CurveShifts.bits2 : waitsOk celluloidlaw16_CurveShifts.T2.2 celluloidlaw16_CurveShifts.B2 = true:=by kernel_rfl
def celluloidlaw16_CurveShifts.T5 : Bool × List (List Nat × List Nat):=(true,[([],[]),([],[]),([],[]),([0,1,2],[0,1,2]),([],[]),([],[]),([],[]),([4,5,6,3],[4,5,6]),([3,7,0,1,2,3],[3]),([7,8,0,1,2,3,4,5,6,7,8],[7])])
def celluloidlaw16_CurveShifts.B5 : List Nat:=[0,0,0,7,0,0,0,127,255,511]
theorem celluloidlaw16_CurveShifts.tab5 : rtab .any (opsOf Try.f7 5) = celluloidlaw16_CurveShifts.T5:=by kernel_rfl
theorem celluloidlaw16_CurveShifts.bits5 : waitsOk celluloidlaw16_CurveShifts.T5.2 celluloidlaw16_CurveShifts.B5 = true:=by kernel_rfl
def celluloidlaw16_CurveShifts.T6 : Bool × List (List Nat × List Nat):=(true,[([],[]),([0],[0]),([],[]),([2],[2]),([1,3],[1,3]),([4],[4]),([5],[5]),([6,5],[5,6]),([7,5],[5,7]),([5,8],[5,8]),([9,5],[9]),([10],[10]),([10],[10]),([10],[10]),([11,12,13,10,10],[10,11,12,13]),([10],[10]),([10],[10]),([10],[10]),([15,16,17,14,10],[10,15,16,17]),([14,18,10],[10,14,18]),([10,19],[10,19])])
def celluloidlaw16_CurveShifts.B6 : List Nat:=[0,1,0,4,15,31,63,127,255,511,1023,2047,2047,2047,16383,2047,2047,2047,262143,524287,1048575]
theorem celluloidlaw16_CurveShifts.tab6 : rtab .any (opsOf Try.f7 6) = celluloidlaw16_CurveShifts.T6:=by kernel_rfl
theorem celluloidlaw16_CurveShifts.bits6 : waitsOk celluloidlaw16_CurveShifts.T6.2 celluloidlaw16_CurveShifts.B6 = true:=by kernel_rfl
def celluloidlaw16_CurveShifts.T11 : Bool × List (List Nat × List Nat):=(true,[([],[]),([],[]),([0,1],[0,1]),([2],[2]),([3],[3]),([],[]),([],[]),([5,6],[5,6]),([7],[7]),([8],[8]),([],[]),([10],[10]),([9,11],[9,11]),([4,12],[4,12]),([13],[13]),([14],[14]),([14],[14]),([15,16,14],[14,15,16]),([17,14],[14,17]),([18,14],[14,18]),([14],[14]),([14],[14]),([20,21,14],[14,20,21]),([22,14],[14,22]),([23,14],[14,23]),([14],[14]),([25,14],[14,25]),([24,26,14],[14,24,26]),([19,27,14],[14,19,27]),([14,28],[14,28])])
def celluloidlaw16_CurveShifts.B11 : List Nat:=[0,0,3,7,15,0,0,96,224,480,0,1024,4064,8191,16383,32767,32767,131071,262143,524287,32767,32767,3178495,7372799,15761407,32767,33587199,133201919,268435455,536870911]
theorem celluloidlaw16_CurveShifts.tab11 : rtab .any (opsOf Try.f7 11) = celluloidlaw16_CurveShifts.T11:=by kernel_rfl
theorem celluloidlaw16_CurveShifts.bits11 : waitsOk celluloidlaw16_CurveShifts.T11.2 celluloidlaw16_CurveShifts.B11 = true:=by kernel_rfl
set_option maxHeartbeats 8000000 in
set_option maxRecDepth 100000 in
theorem celluloidlaw16_CurveShifts.calls (k : Nat) (a0_0 : Int) (a0_1 : Int) (a1_0 : Int) (a1_1 : Int) (a2_0 : Int) (a2_1 : Int) (a3 : Int) (a4 : Int) (r : Bool) (w : World) (h : celluloidlaw16_CurveShifts.f k a0_0 a0_1 a1_0 a1_1 a2_0 a2_1 a3 a4 = some r) :
    Calls Try.prog 7 #[.agg #[.int .i64 a0_0,.int .i64 a0_1],.agg #[.int .i64 a1_0,.int .i64 a1_1],.agg #[.int .i64 a2_0,.int .i64 a2_1],.int .i16 a3,.int .i16 a4] w fun e w' => e = .returned (.bool r) ∧ Below w.heap.size w w':=by
  have hu23:=Try.underlying23;have HB:=am (Below.refl w.heap.size w);have H : ((celluloidlaw16_right.f k a0_0 a0_1 a1_0 a1_1 a2_0 a2_1).bind fun t279 => (if t279 = true then ((celluloidlaw16_right.f k (wrap64 (a0_0 + (wrap64 (2 * (wrap64 (a3)))))) (wrap64 (a0_1 + (wrap64 (2 * (wrap64 (a4)))))) (wrap64 (a1_0 + (wrap64 (2 * (wrap64 (a3)))))) (wrap64 (a1_1 + (wrap64 (2 * (wrap64 (a4)))))) (wrap64 (a2_0 + (wrap64 (2 * (wrap64 (a3)))))) (wrap64 (a2_1 + (wrap64 (2 * (wrap64 (a4))))))).bind fun t280 => (celluloidlaw16_CurveShifts.j0 k (!t280) a0_0 a0_1 a1_0 a1_1 a2_0 a2_1 (wrap64 (2 * (wrap64 (a3)))) (wrap64 (2 * (wrap64 (a4)))) (wrap64 (a0_0 + (wrap64 (2 * (wrap64 (a3)))))) (wrap64 (a0_1 + (wrap64 (2 * (wrap64 (a4)))))) (wrap64 (a1_0 + (wrap64 (2 * (wrap64 (a3)))))) (wrap64 (a1_1 + (wrap64 (2 * (wrap64 (a4)))))) (wrap64 (a2_0 + (wrap64 (2 * (wrap64 (a3)))))) (wrap64 (a2_1 + (wrap64 (2 * (wrap64 (a4)))))))) else (celluloidlaw16_CurveShifts.j0 k true a0_0 a0_1 a1_0 a1_1 a2_0 a2_1 (wrap64 (2 * (wrap64 (a3)))) (wrap64 (2 * (wrap64 (a4)))) (wrap64 (a0_0 + (wrap64 (2 * (wrap64 (a3)))))) (wrap64 (a0_1 + (wrap64 (2 * (wrap64 (a4)))))) (wrap64 (a1_0 + (wrap64 (2 * (wrap64 (a3)))))) (wrap64 (a1_1 + (wrap64 (2 * (wrap64 (a4)))))) (wrap64 (a2_0 + (wrap64 (2 * (wrap64 (a3)))))) (wrap64 (a2_1 + (wrap64 (2 * (wrap64 (a4))))))))) = some r:=h;clear h;have HC6:=am H;clear H
  go_enter Try.func7,Try.ntmps7
  try go_wp2_with (first|((with_reducible refine gate_dst (N:=5) rfl ?_);(try (refine gate_guard (by rfl) ?_;dsimp only));refine box_event ?hg (N:=5) ?hd (cs:=#[.int .i64 a0_0,.int .i64 a0_1]) (t:=23) ?hr ?_;(case hd => rfl);(case hg => rfl);(case hr => first|(go_simp;done)|(go_simp;rfl));intro gb272 hg w7 hbox hb;have BK272:=am (hbox);have GW272:=am ((by rw [hg];exact (sz (by repeat (first|(with_reducible first|exact HB.out|apply sa|apply sn|apply sd)|exact HB.out))) : w.heap.size ≤ gb272));have GE272:=am ((by rw [hg];exact (sz (by repeat (first|(with_reducible first|exact HB.out|apply sa|apply sn|apply sd)|exact HB.out))) : w.heap.size ≤ gb272));replace HB:=am (ss (by repeat (first|(with_reducible first|exact HB.out|apply sa|apply sn|apply sd)|exact HB.out)) hb);clear hb hbox hg)|((with_reducible refine gate_dst (N:=6) rfl ?_);(try (refine gate_guard (by rfl) ?_;dsimp only));refine box_event ?hg (N:=6) ?hd (cs:=#[.int .i64 a1_0,.int .i64 a1_1]) (t:=23) ?hr ?_;(case hd => rfl);(case hg => rfl);(case hr => first|(go_simp;done)|(go_simp;rfl));intro gb273 hg w8 hbox hb;have BK273:=am (hbox);obtain ⟨h1_,GW273⟩:=sg (by repeat (first|(with_reducible first|exact HB.out|apply sa|apply sn|apply sd|refine sx ?_ GE272.out)|exact HB.out)) hb hg;replace HB:=h1_;clear h1_;have GE273:=GW273;have NB272_273:=nb (by exact BK272.out) hg;have NB273_272:=ng (by exact BK272.out) hg;replace BK272:=am (bw (by exact BK272.out) hb);clear hb hbox hg)|((with_reducible refine gate_dst (N:=7) rfl ?_);(try (refine gate_guard (by rfl) ?_;dsimp only));refine box_event ?hg (N:=7) ?hd (cs:=#[.int .i64 a2_0,.int .i64 a2_1]) (t:=23) ?hr ?_;(case hd => rfl);(case hg => rfl);(case hr => first|(go_simp;done)|(go_simp;rfl));intro gb274 hg w9 hbox hb;have BK274:=am (hbox);obtain ⟨h1_,GW274⟩:=sg (by repeat (first|(with_reducible first|exact HB.out|apply sa|apply sn|apply sd|refine sy ?_ (by assumption))|exact HB.out)) hb hg;replace HB:=h1_;clear h1_;have GE274:=GW274;have NB272_274:=nb (by exact BK272.out) hg;replace BK272:=am (bw (by exact BK272.out) hb);have NB274_272:=am (Ne.symm NB272_274.out);have NB273_274:=nb (by exact BK273.out) hg;have NB274_273:=ng (by exact BK273.out) hg;replace BK273:=am (bw (by exact BK273.out) hb);clear hb hbox hg)|((with_reducible refine gate_dst (N:=11) rfl ?_);(try (refine gate_guard (by rfl) ?_;dsimp only));refine box_event ?hg (N:=11) ?hd (cs:=#[.int .i64 0,.int .i64 0]) (t:=23) ?hr ?_;(case hd => rfl);(case hg => rfl);(case hr => first|(go_simp;done)|(go_simp;rfl));intro gb275 hg w10 hbox hb;have BK275:=am (hbox);obtain ⟨h1_,GW275⟩:=sg (by repeat (first|(with_reducible first|exact HB.out|apply sa|apply sn|apply sd|refine sy ?_ (by assumption))|exact HB.out)) hb hg;replace HB:=h1_;clear h1_;have GE275:=GW275;have NB272_275:=nb (by exact BK272.out) hg;replace BK272:=am (bw (by exact BK272.out) hb);have NB275_272:=am (Ne.symm NB272_275.out);have NB273_275:=nb (by exact BK273.out) hg;replace BK273:=am (bw (by exact BK273.out) hb);have NB275_273:=am (Ne.symm NB273_275.out);have NB274_275:=nb (by exact BK274.out) hg;have NB275_274:=ng (by exact BK274.out) hg;replace BK274:=am (bw (by exact BK274.out) hb);clear hb hbox hg;have hnb11:=NB275_272.out;have hnc11:=NB272_275.out;have hnb12:=NB275_273.out;have hnc12:=NB273_275.out;have hnb13:=NB275_274.out;have hnc13:=NB274_275.out;obtain ⟨hcz14_0,hcz14_1⟩:=cq2 BK275.out;obtain ⟨hfz14_0,hfz14_1⟩:=fq2 BK275.out))
  have n0_ : Aside0 (((w10.setCell ⟨gb275,0,none⟩ (.int .i64 (wrap64 (2 * (wrap64 (a3)))))).setCell ⟨gb275,1,none⟩ (.int .i64 (wrap64 (2 * (wrap64 (a4)))))).heap[gb272]? = some (.cells #[.int .i64 a0_0,.int .i64 a0_1] 23 (0,0))):=⟨by (with_reducible repeat (first|refine bn ?_ _|refine bd ?_|refine ba ?_ _|refine bf ?_ NB272_275.out _));exact BK272.out⟩;have n1_ : Aside0 (((w10.setCell ⟨gb275,0,none⟩ (.int .i64 (wrap64 (2 * (wrap64 (a3)))))).setCell ⟨gb275,1,none⟩ (.int .i64 (wrap64 (2 * (wrap64 (a4)))))).heap[gb273]? = some (.cells #[.int .i64 a1_0,.int .i64 a1_1] 23 (0,0))):=⟨by (with_reducible repeat (first|refine bn ?_ _|refine bd ?_|refine ba ?_ _|refine bf ?_ NB273_275.out _));exact BK273.out⟩;have n2_ : Aside0 (((w10.setCell ⟨gb275,0,none⟩ (.int .i64 (wrap64 (2 * (wrap64 (a3)))))).setCell ⟨gb275,1,none⟩ (.int .i64 (wrap64 (2 * (wrap64 (a4)))))).heap[gb274]? = some (.cells #[.int .i64 a2_0,.int .i64 a2_1] 23 (0,0))):=⟨by (with_reducible repeat (first|refine bn ?_ _|refine bd ?_|refine ba ?_ _|refine bf ?_ NB274_275.out _));exact BK274.out⟩;have n3_ : Aside0 (((w10.setCell ⟨gb275,0,none⟩ (.int .i64 (wrap64 (2 * (wrap64 (a3)))))).setCell ⟨gb275,1,none⟩ (.int .i64 (wrap64 (2 * (wrap64 (a4)))))).heap[gb275]? = some (.cells #[.int .i64 (wrap64 (2 * (wrap64 (a3)))),.int .i64 (wrap64 (2 * (wrap64 (a4))))] 23 (0,0))):=⟨by (with_reducible repeat (first|refine bn ?_ _|refine bd ?_|refine ba ?_ _));refine bp (cs:=#[.int .i64 (wrap64 (2 * (wrap64 (a3)))),.int .i64 0]) ?_ 1 _ rfl;(with_reducible repeat (first|refine bn ?_ _|refine bd ?_|refine ba ?_ _));refine bp (cs:=#[.int .i64 0,.int .i64 0]) ?_ 0 _ rfl;(with_reducible repeat (first|refine bn ?_ _|refine bd ?_|refine ba ?_ _));exact BK275.out⟩;have n4_ : Aside0 (Below w.heap.size w ((w10.setCell ⟨gb275,0,none⟩ (.int .i64 (wrap64 (2 * (wrap64 (a3)))))).setCell ⟨gb275,1,none⟩ (.int .i64 (wrap64 (2 * (wrap64 (a4))))))):=⟨by repeat (first|(with_reducible first|exact HB.out|apply sa|apply sn|apply sd|refine sy ?_ (by assumption))|exact HB.out)⟩;(try clear BK272);(try clear BK273);(try clear BK274);(try clear BK275);(try clear HB);generalize ((w10.setCell ⟨gb275,0,none⟩ (.int .i64 (wrap64 (2 * (wrap64 (a3)))))).setCell ⟨gb275,1,none⟩ (.int .i64 (wrap64 (2 * (wrap64 (a4)))))) = w15 at n0_ n1_ n2_ n3_ n4_ ⊢;have BK272:=n0_;have BK273:=n1_;have BK274:=n2_;have BK275:=n3_;have HB:=n4_;clear n0_ n1_ n2_ n3_ n4_;replace BK272:=am (bd BK272.out);replace BK273:=am (bd BK273.out);replace BK274:=am (bd BK274.out);replace BK275:=am (bd BK275.out);replace HB:=am (sd HB.out);refine start_ (n:=39) (S:=fun w' => w'.cell? ⟨gb272,0,none⟩ = some (.int .i64 a0_0) ∧ w'.cell? ⟨gb272,1,none⟩ = some (.int .i64 a0_1) ∧ w'.cell? ⟨gb275,0,none⟩ = some (.int .i64 (wrap64 (2 * (wrap64 (a3))))) ∧ w'.cell? ⟨gb275,1,none⟩ = some (.int .i64 (wrap64 (2 * (wrap64 (a4))))) ∧ w'.cell? ⟨gb273,0,none⟩ = some (.int .i64 a1_0) ∧ w'.cell? ⟨gb273,1,none⟩ = some (.int .i64 a1_1) ∧ w'.cell? ⟨gb274,0,none⟩ = some (.int .i64 a2_0) ∧ w'.cell? ⟨gb274,1,none⟩ = some (.int .i64 a2_1)) (ds:=[]) #[false,false,false,false,false,false,false,false,false,false,false,false,false,false,false,false,false,false,false,false,false,false,false,false,false,false,false,false,false,false,false,false,false,false,false,false,false,false,false] (by kernel_rfl) rfl rfl ⟨(bc BK272.out 0).trans rfl,(bc BK272.out 1).trans rfl,(bc BK275.out 0).trans rfl,(bc BK275.out 1).trans rfl,(bc BK273.out 0).trans rfl,(bc BK273.out 1).trans rfl,(bc BK274.out 0).trans rfl,(bc BK274.out 1).trans rfl⟩ (fun hHeld => ?_);refine with_tabW celluloidlaw16_CurveShifts.tab2 celluloidlaw16_CurveShifts.bits2 (fun HT_ HW_ => ?_);generalize w15.drew = w16 at BK272 BK273 BK274 BK275 HB hHeld ⊢;refine pure_ (i:=0) (N:=some 25) (v:=?_) (a':=?_) #[true,false,false,false,false,false,false,false,false,false,false,false,false,false,false,false,false,false,false,false,false,false,false,false,false,false,false,false,false,false,false,false,false,false,false,false,false,false,false] rfl rfl (any_of HT_.out (by kernel_rfl)) (fun _ _ _ h => h) (Or.inl ⟨by rfl,?_⟩) ?_ ?_
  rotate_left
  · intro w'
    go_simp
    with_reducible rfl
  rotate_left
  · simp only [Act.put,q1,q2,q3,i64_w,i32_w]
    rfl
  refine pure_ (i:=2) (N:=some 27) (v:=?_) (a':=?_) #[true,false,true,false,false,false,false,false,false,false,false,false,false,false,false,false,false,false,false,false,false,false,false,false,false,false,false,false,false,false,false,false,false,false,false,false,false,false,false] rfl rfl (any_of HT_.out (by kernel_rfl)) (fun _ _ _ h => h) (Or.inl ⟨by rfl,?_⟩) ?_ ?_
  rotate_left
  · intro w'
    go_simp
    with_reducible rfl
  rotate_left
  · simp only [Act.put,q1,q2,q3,i64_w,i32_w]
    rfl
  refine pure_ (i:=5) (N:=some 30) (v:=?_) (a':=?_) #[true,false,true,false,false,true,false,false,false,false,false,false,false,false,false,false,false,false,false,false,false,false,false,false,false,false,false,false,false,false,false,false,false,false,false,false,false,false,false] rfl rfl (any_of HT_.out (by kernel_rfl)) (fun _ _ _ h => h) (Or.inl ⟨by rfl,?_⟩) ?_ ?_
  rotate_left
  · intro w'
    go_simp
    with_reducible rfl
  rotate_left
  · simp only [Act.put,q1,q2,q3,i64_w,i32_w]
    rfl
  refine pure_ (i:=7) (N:=some 32) (v:=?_) (a':=?_) #[true,false,true,false,false,true,false,true,false,false,false,false,false,false,false,false,false,false,false,false,false,false,false,false,false,false,false,false,false,false,false,false,false,false,false,false,false,false,false] rfl rfl (any_of HT_.out (by kernel_rfl)) (fun _ _ _ h => h) (Or.inl ⟨by rfl,?_⟩) ?_ ?_
  rotate_left
  · intro w'
    go_simp
    with_reducible rfl
  rotate_left
  · simp only [Act.put,q1,q2,q3,i64_w,i32_w]
    rfl
  refine pure_ (i:=11) (N:=some 36) (v:=?_) (a':=?_) #[true,false,true,false,false,true,false,true,false,false,false,true,false,false,false,false,false,false,false,false,false,false,false,false,false,false,false,false,false,false,false,false,false,false,false,false,false,false,false] rfl rfl (any_of HT_.out (by kernel_rfl)) (fun _ _ _ h => h) (Or.inl ⟨by rfl,?_⟩) ?_ ?_
  rotate_left
  · intro w'
    go_simp
    with_reducible rfl
  rotate_left
  · simp only [Act.put,q1,q2,q3,i64_w,i32_w]
    rfl
  refine pure_ (i:=13) (N:=some 38) (v:=?_) (a':=?_) #[true,false,true,false,false,true,false,true,false,false,false,true,false,true,false,false,false,false,false,false,false,false,false,false,false,false,false,false,false,false,false,false,false,false,false,false,false,false,false] rfl rfl (any_of HT_.out (by kernel_rfl)) (fun _ _ _ h => h) (Or.inl ⟨by rfl,?_⟩) ?_ ?_
  rotate_left
  · intro w'
    go_simp
    with_reducible rfl
  rotate_left
  · simp only [Act.put,q1,q2,q3,i64_w,i32_w]
    rfl
  refine pure_ (i:=16) (N:=some 41) (v:=?_) (a':=?_) #[true,false,true,false,false,true,false,true,false,false,false,true,false,true,false,false,true,false,false,false,false,false,false,false,false,false,false,false,false,false,false,false,false,false,false,false,false,false,false] rfl rfl (any_of HT_.out (by kernel_rfl)) (fun _ _ _ h => h) (Or.inl ⟨by rfl,?_⟩) ?_ ?_
  rotate_left
  · intro w'
    go_simp
    with_reducible rfl
  rotate_left
  · simp only [Act.put,q1,q2,q3,i64_w,i32_w]
    rfl
  refine pure_ (i:=18) (N:=some 43) (v:=?_) (a':=?_) #[true,false,true,false,false,true,false,true,false,false,false,true,false,true,false,false,true,false,true,false,false,false,false,false,false,false,false,false,false,false,false,false,false,false,false,false,false,false,false] rfl rfl (any_of HT_.out (by kernel_rfl)) (fun _ _ _ h => h) (Or.inl ⟨by rfl,?_⟩) ?_ ?_
  rotate_left
  · intro w'
    go_simp
    with_reducible rfl
  rotate_left
  · simp only [Act.put,q1,q2,q3,i64_w,i32_w]
    rfl
  refine pure_ (i:=22) (N:=some 47) (v:=?_) (a':=?_) #[true,false,true,false,false,true,false,true,false,false,false,true,false,true,false,false,true,false,true,false,false,false,true,false,false,false,false,false,false,false,false,false,false,false,false,false,false,false,false] rfl rfl (any_of HT_.out (by kernel_rfl)) (fun _ _ _ h => h) (Or.inl ⟨by rfl,?_⟩) ?_ ?_
  rotate_left
  · intro w'
    go_simp
    with_reducible rfl
  rotate_left
  · simp only [Act.put,q1,q2,q3,i64_w,i32_w]
    rfl
  refine pure_ (i:=24) (N:=some 49) (v:=?_) (a':=?_) #[true,false,true,false,false,true,false,true,false,false,false,true,false,true,false,false,true,false,true,false,false,false,true,false,true,false,false,false,false,false,false,false,false,false,false,false,false,false,false] rfl rfl (any_of HT_.out (by kernel_rfl)) (fun _ _ _ h => h) (Or.inl ⟨by rfl,?_⟩) ?_ ?_
  rotate_left
  · intro w'
    go_simp
    with_reducible rfl
  rotate_left
  · simp only [Act.put,q1,q2,q3,i64_w,i32_w]
    rfl
  refine pure_ (i:=27) (N:=some 52) (v:=?_) (a':=?_) #[true,false,true,false,false,true,false,true,false,false,false,true,false,true,false,false,true,false,true,false,false,false,true,false,true,false,false,true,false,false,false,false,false,false,false,false,false,false,false] rfl rfl (any_of HT_.out (by kernel_rfl)) (fun _ _ _ h => h) (Or.inl ⟨by rfl,?_⟩) ?_ ?_
  rotate_left
  · intro w'
    go_simp
    with_reducible rfl
  rotate_left
  · simp only [Act.put,q1,q2,q3,i64_w,i32_w]
    rfl
  refine pure_ (i:=29) (N:=some 54) (v:=?_) (a':=?_) #[true,false,true,false,false,true,false,true,false,false,false,true,false,true,false,false,true,false,true,false,false,false,true,false,true,false,false,true,false,true,false,false,false,false,false,false,false,false,false] rfl rfl (any_of HT_.out (by kernel_rfl)) (fun _ _ _ h => h) (Or.inl ⟨by rfl,?_⟩) ?_ ?_
  rotate_left
  · intro w'
    go_simp
    with_reducible rfl
  rotate_left
  · simp only [Act.put,q1,q2,q3,i64_w,i32_w]
    rfl
  refine take_ (i:=1) (N:=some 26) (v:=?_) (a':=?_) #[true,true,true,false,false,true,false,true,false,false,false,true,false,true,false,false,true,false,true,false,false,false,true,false,true,false,false,true,false,true,false,false,false,false,false,false,false,false,false] rfl rfl (take_ofW HT_.out HW_.out (by kernel_rfl)) (fun _ _ _ h => h) (Or.inl ⟨by rfl,?_⟩) hHeld ?_ ?_
  rotate_left
  · rintro w' ⟨s0,s1,s2,s3,s4,s5,s6,s7⟩
    go_simp
    with_reducible rfl
  rotate_left
  · simp only [Act.put,q1,q2,q3,i64_w,i32_w]
    rfl
  refine take_ (i:=3) (N:=some 28) (v:=?_) (a':=?_) #[true,true,true,true,false,true,false,true,false,false,false,true,false,true,false,false,true,false,true,false,false,false,true,false,true,false,false,true,false,true,false,false,false,false,false,false,false,false,false] rfl rfl (take_ofW HT_.out HW_.out (by kernel_rfl)) (fun _ _ _ h => h) (Or.inl ⟨by rfl,?_⟩) hHeld ?_ ?_
  rotate_left
  · rintro w' ⟨s0,s1,s2,s3,s4,s5,s6,s7⟩
    go_simp
    with_reducible rfl
  rotate_left
  · simp only [Act.put,q1,q2,q3,i64_w,i32_w]
    rfl
  refine pure_ (i:=4) (N:=some 29) (v:=?_) (a':=?_) #[true,true,true,true,true,true,false,true,false,false,false,true,false,true,false,false,true,false,true,false,false,false,true,false,true,false,false,true,false,true,false,false,false,false,false,false,false,false,false] rfl rfl (any_of HT_.out (by kernel_rfl)) (fun _ _ _ h => h) (Or.inl ⟨by rfl,?_⟩) ?_ ?_
  rotate_left
  · intro w'
    go_simp
    with_reducible rfl
  rotate_left
  · simp only [Act.put,q1,q2,q3,i64_w,i32_w]
    rfl
  refine take_ (i:=6) (N:=some 31) (v:=?_) (a':=?_) #[true,true,true,true,true,true,true,true,false,false,false,true,false,true,false,false,true,false,true,false,false,false,true,false,true,false,false,true,false,true,false,false,false,false,false,false,false,false,false] rfl rfl (take_ofW HT_.out HW_.out (by kernel_rfl)) (fun _ _ _ h => h) (Or.inl ⟨by rfl,?_⟩) hHeld ?_ ?_
  rotate_left
  · rintro w' ⟨s0,s1,s2,s3,s4,s5,s6,s7⟩
    go_simp
    with_reducible rfl
  rotate_left
  · simp only [Act.put,q1,q2,q3,i64_w,i32_w]
    rfl
  refine take_ (i:=8) (N:=some 33) (v:=?_) (a':=?_) #[true,true,true,true,true,true,true,true,true,false,false,true,false,true,false,false,true,false,true,false,false,false,true,false,true,false,false,true,false,true,false,false,false,false,false,false,false,false,false] rfl rfl (take_ofW HT_.out HW_.out (by kernel_rfl)) (fun _ _ _ h => h) (Or.inl ⟨by rfl,?_⟩) hHeld ?_ ?_
  rotate_left
  · rintro w' ⟨s0,s1,s2,s3,s4,s5,s6,s7⟩
    go_simp
    with_reducible rfl
  rotate_left
  · simp only [Act.put,q1,q2,q3,i64_w,i32_w]
    rfl
  refine pure_ (i:=9) (N:=some 34) (v:=?_) (a':=?_) #[true,true,true,true,true,true,true,true,true,true,false,true,false,true,false,false,true,false,true,false,false,false,true,false,true,false,false,true,false,true,false,false,false,false,false,false,false,false,false] rfl rfl (any_of HT_.out (by kernel_rfl)) (fun _ _ _ h => h) (Or.inl ⟨by rfl,?_⟩) ?_ ?_
  rotate_left
  · intro w'
    go_simp
    with_reducible rfl
  rotate_left
  · simp only [Act.put,q1,q2,q3,i64_w,i32_w]
    rfl
  refine pure_ (i:=10) (N:=some 35) (v:=?_) (a':=?_) #[true,true,true,true,true,true,true,true,true,true,true,true,false,true,false,false,true,false,true,false,false,false,true,false,true,false,false,true,false,true,false,false,false,false,false,false,false,false,false] rfl rfl (any_of HT_.out (by kernel_rfl)) (fun _ _ _ h => h) (Or.inl ⟨by rfl,?_⟩) ?_ ?_
  rotate_left
  · intro w'
    go_simp
    with_reducible rfl
  rotate_left
  · simp only [Act.put,q1,q2,q3,i64_w,i32_w]
    rfl
  refine take_ (i:=12) (N:=some 37) (v:=?_) (a':=?_) #[true,true,true,true,true,true,true,true,true,true,true,true,true,true,false,false,true,false,true,false,false,false,true,false,true,false,false,true,false,true,false,false,false,false,false,false,false,false,false] rfl rfl (take_ofW HT_.out HW_.out (by kernel_rfl)) (fun _ _ _ h => h) (Or.inl ⟨by rfl,?_⟩) hHeld ?_ ?_
  rotate_left
  · rintro w' ⟨s0,s1,s2,s3,s4,s5,s6,s7⟩
    go_simp
    with_reducible rfl
  rotate_left
  · simp only [Act.put,q1,q2,q3,i64_w,i32_w]
    rfl
  refine take_ (i:=14) (N:=some 39) (v:=?_) (a':=?_) #[true,true,true,true,true,true,true,true,true,true,true,true,true,true,true,false,true,false,true,false,false,false,true,false,true,false,false,true,false,true,false,false,false,false,false,false,false,false,false] rfl rfl (take_ofW HT_.out HW_.out (by kernel_rfl)) (fun _ _ _ h => h) (Or.inl ⟨by rfl,?_⟩) hHeld ?_ ?_
  rotate_left
  · rintro w' ⟨s0,s1,s2,s3,s4,s5,s6,s7⟩
    go_simp
    with_reducible rfl
  rotate_left
  · simp only [Act.put,q1,q2,q3,i64_w,i32_w]
    rfl
  refine pure_ (i:=15) (N:=some 40) (v:=?_) (a':=?_) #[true,true,true,true,true,true,true,true,true,true,true,true,true,true,true,true,true,false,true,false,false,false,true,false,true,false,false,true,false,true,false,false,false,false,false,false,false,false,false] rfl rfl (any_of HT_.out (by kernel_rfl)) (fun _ _ _ h => h) (Or.inl ⟨by rfl,?_⟩) ?_ ?_
  rotate_left
  · intro w'
    go_simp
    with_reducible rfl
  rotate_left
  · simp only [Act.put,q1,q2,q3,i64_w,i32_w]
    rfl
  refine take_ (i:=17) (N:=some 42) (v:=?_) (a':=?_) #[true,true,true,true,true,true,true,true,true,true,true,true,true,true,true,true,true,true,true,false,false,false,true,false,true,false,false,true,false,true,false,false,false,false,false,false,false,false,false] rfl rfl (take_ofW HT_.out HW_.out (by kernel_rfl)) (fun _ _ _ h => h) (Or.inl ⟨by rfl,?_⟩) hHeld ?_ ?_
  rotate_left
  · rintro w' ⟨s0,s1,s2,s3,s4,s5,s6,s7⟩
    go_simp
    with_reducible rfl
  rotate_left
  · simp only [Act.put,q1,q2,q3,i64_w,i32_w]
    rfl
  refine take_ (i:=19) (N:=some 44) (v:=?_) (a':=?_) #[true,true,true,true,true,true,true,true,true,true,true,true,true,true,true,true,true,true,true,true,false,false,true,false,true,false,false,true,false,true,false,false,false,false,false,false,false,false,false] rfl rfl (take_ofW HT_.out HW_.out (by kernel_rfl)) (fun _ _ _ h => h) (Or.inl ⟨by rfl,?_⟩) hHeld ?_ ?_
  rotate_left
  · rintro w' ⟨s0,s1,s2,s3,s4,s5,s6,s7⟩
    go_simp
    with_reducible rfl
  rotate_left
  · simp only [Act.put,q1,q2,q3,i64_w,i32_w]
    rfl
  refine pure_ (i:=20) (N:=some 45) (v:=?_) (a':=?_) #[true,true,true,true,true,true,true,true,true,true,true,true,true,true,true,true,true,true,true,true,true,false,true,false,true,false,false,true,false,true,false,false,false,false,false,false,false,false,false] rfl rfl (any_of HT_.out (by kernel_rfl)) (fun _ _ _ h => h) (Or.inl ⟨by rfl,?_⟩) ?_ ?_
  rotate_left
  · intro w'
    go_simp
    with_reducible rfl
  rotate_left
  · simp only [Act.put,q1,q2,q3,i64_w,i32_w]
    rfl
  refine pure_ (i:=21) (N:=some 46) (v:=?_) (a':=?_) #[true,true,true,true,true,true,true,true,true,true,true,true,true,true,true,true,true,true,true,true,true,true,true,false,true,false,false,true,false,true,false,false,false,false,false,false,false,false,false] rfl rfl (any_of HT_.out (by kernel_rfl)) (fun _ _ _ h => h) (Or.inl ⟨by rfl,?_⟩) ?_ ?_
  rotate_left
  · intro w'
    go_simp
    with_reducible rfl
  rotate_left
  · simp only [Act.put,q1,q2,q3,i64_w,i32_w]
    rfl
  refine take_ (i:=23) (N:=some 48) (v:=?_) (a':=?_) #[true,true,true,true,true,true,true,true,true,true,true,true,true,true,true,true,true,true,true,true,true,true,true,true,true,false,false,true,false,true,false,false,false,false,false,false,false,false,false] rfl rfl (take_ofW HT_.out HW_.out (by kernel_rfl)) (fun _ _ _ h => h) (Or.inl ⟨by rfl,?_⟩) hHeld ?_ ?_
  rotate_left
  · rintro w' ⟨s0,s1,s2,s3,s4,s5,s6,s7⟩
    go_simp
    with_reducible rfl
  rotate_left
  · simp only [Act.put,q1,q2,q3,i64_w,i32_w]
    rfl
  refine take_ (i:=25) (N:=some 50) (v:=?_) (a':=?_) #[true,true,true,true,true,true,true,true,true,true,true,true,true,true,true,true,true,true,true,true,true,true,true,true,true,true,false,true,false,true,false,false,false,false,false,false,false,false,false] rfl rfl (take_ofW HT_.out HW_.out (by kernel_rfl)) (fun _ _ _ h => h) (Or.inl ⟨by rfl,?_⟩) hHeld ?_ ?_
  rotate_left
  · rintro w' ⟨s0,s1,s2,s3,s4,s5,s6,s7⟩
    go_simp
    with_reducible rfl
  rotate_left
  · simp only [Act.put,q1,q2,q3,i64_w,i32_w]
    rfl
  refine pure_ (i:=26) (N:=some 51) (v:=?_) (a':=?_) #[true,true,true,true,true,true,true,true,true,true,true,true,true,true,true,true,true,true,true,true,true,true,true,true,true,true,true,true,false,true,false,false,false,false,false,false,false,false,false] rfl rfl (any_of HT_.out (by kernel_rfl)) (fun _ _ _ h => h) (Or.inl ⟨by rfl,?_⟩) ?_ ?_
  rotate_left
  · intro w'
    go_simp
    with_reducible rfl
  rotate_left
  · simp only [Act.put,q1,q2,q3,i64_w,i32_w]
    rfl
  refine take_ (i:=28) (N:=some 53) (v:=?_) (a':=?_) #[true,true,true,true,true,true,true,true,true,true,true,true,true,true,true,true,true,true,true,true,true,true,true,true,true,true,true,true,true,true,false,false,false,false,false,false,false,false,false] rfl rfl (take_ofW HT_.out HW_.out (by kernel_rfl)) (fun _ _ _ h => h) (Or.inl ⟨by rfl,?_⟩) hHeld ?_ ?_
  rotate_left
  · rintro w' ⟨s0,s1,s2,s3,s4,s5,s6,s7⟩
    go_simp
    with_reducible rfl
  rotate_left
  · simp only [Act.put,q1,q2,q3,i64_w,i32_w]
    rfl
  refine take_ (i:=30) (N:=some 55) (v:=?_) (a':=?_) #[true,true,true,true,true,true,true,true,true,true,true,true,true,true,true,true,true,true,true,true,true,true,true,true,true,true,true,true,true,true,true,false,false,false,false,false,false,false,false] rfl rfl (take_ofW HT_.out HW_.out (by kernel_rfl)) (fun _ _ _ h => h) (Or.inl ⟨by rfl,?_⟩) hHeld ?_ ?_
  rotate_left
  · rintro w' ⟨s0,s1,s2,s3,s4,s5,s6,s7⟩
    go_simp
    with_reducible rfl
  rotate_left
  · simp only [Act.put,q1,q2,q3,i64_w,i32_w]
    rfl
  refine pure_ (i:=31) (N:=some 56) (v:=?_) (a':=?_) #[true,true,true,true,true,true,true,true,true,true,true,true,true,true,true,true,true,true,true,true,true,true,true,true,true,true,true,true,true,true,true,true,false,false,false,false,false,false,false] rfl rfl (any_of HT_.out (by kernel_rfl)) (fun _ _ _ h => h) (Or.inl ⟨by rfl,?_⟩) ?_ ?_
  rotate_left
  · intro w'
    go_simp
    with_reducible rfl
  rotate_left
  · simp only [Act.put,q1,q2,q3,i64_w,i32_w]
    rfl
  refine pure_ (i:=32) (N:=some 57) (v:=?_) (a':=?_) #[true,true,true,true,true,true,true,true,true,true,true,true,true,true,true,true,true,true,true,true,true,true,true,true,true,true,true,true,true,true,true,true,true,false,false,false,false,false,false] rfl rfl (any_of HT_.out (by kernel_rfl)) (fun _ _ _ h => h) (Or.inl ⟨by rfl,?_⟩) ?_ ?_
  rotate_left
  · intro w'
    go_simp
    with_reducible rfl
  rotate_left
  · simp only [Act.put,q1,q2,q3,i64_w,i32_w]
    rfl
  refine join_ (σ:=Nat × Nat × Nat) 3 #[true,true,true,true,true,true,true,true,true,true,true,true,true,true,true,true,true,true,true,true,true,true,true,true,true,true,true,true,true,true,true,true,true,true,true,true,false,false,false] (fun s_ => [(12,.pointer (some ⟨s_.1,0,none⟩)),(13,.pointer (some ⟨s_.2.1,0,none⟩)),(14,.pointer (some ⟨s_.2.2,0,none⟩))]) (fun s_ w' => (w'.cell? ⟨gb272,0,none⟩ = some (.int .i64 a0_0) ∧ w'.cell? ⟨gb272,1,none⟩ = some (.int .i64 a0_1) ∧ w'.cell? ⟨gb275,0,none⟩ = some (.int .i64 (wrap64 (2 * (wrap64 (a3))))) ∧ w'.cell? ⟨gb275,1,none⟩ = some (.int .i64 (wrap64 (2 * (wrap64 (a4))))) ∧ w'.cell? ⟨gb273,0,none⟩ = some (.int .i64 a1_0) ∧ w'.cell? ⟨gb273,1,none⟩ = some (.int .i64 a1_1) ∧ w'.cell? ⟨gb274,0,none⟩ = some (.int .i64 a2_0) ∧ w'.cell? ⟨gb274,1,none⟩ = some (.int .i64 a2_1)) ∧ (w'.heap[gb272]? = some (.cells #[.int .i64 a0_0,.int .i64 a0_1] 23 (0,0))) ∧ (w'.heap[gb273]? = some (.cells #[.int .i64 a1_0,.int .i64 a1_1] 23 (0,0))) ∧ (w'.heap[gb274]? = some (.cells #[.int .i64 a2_0,.int .i64 a2_1] 23 (0,0))) ∧ (w'.heap[gb275]? = some (.cells #[.int .i64 (wrap64 (2 * (wrap64 (a3)))),.int .i64 (wrap64 (2 * (wrap64 (a4))))] 23 (0,0))) ∧ (w'.heap[s_.1]? = some (.cells #[.int .i64 0,.int .i64 0] 23 (0,0))) ∧ (w'.heap[s_.2.1]? = some (.cells #[.int .i64 0,.int .i64 0] 23 (0,0))) ∧ (w'.heap[s_.2.2]? = some (.cells #[.int .i64 0,.int .i64 0] 23 (0,0))) ∧ (w.heap.size ≤ s_.1) ∧ (w.heap.size ≤ s_.1) ∧ (gb272 ≠ s_.1) ∧ (s_.1 ≠ gb272) ∧ (gb273 ≠ s_.1) ∧ (s_.1 ≠ gb273) ∧ (gb274 ≠ s_.1) ∧ (s_.1 ≠ gb274) ∧ (gb275 ≠ s_.1) ∧ (s_.1 ≠ gb275) ∧ (s_.2.1 ≠ s_.1) ∧ (s_.1 ≠ s_.2.1) ∧ (s_.2.2 ≠ s_.1) ∧ (s_.1 ≠ s_.2.2) ∧ (w.heap.size ≤ s_.2.1) ∧ (w.heap.size ≤ s_.2.1) ∧ (gb272 ≠ s_.2.1) ∧ (s_.2.1 ≠ gb272) ∧ (gb273 ≠ s_.2.1) ∧ (s_.2.1 ≠ gb273) ∧ (gb274 ≠ s_.2.1) ∧ (s_.2.1 ≠ gb274) ∧ (gb275 ≠ s_.2.1) ∧ (s_.2.1 ≠ gb275) ∧ (s_.2.2 ≠ s_.2.1) ∧ (s_.2.1 ≠ s_.2.2) ∧ (w.heap.size ≤ s_.2.2) ∧ (w.heap.size ≤ s_.2.2) ∧ (gb272 ≠ s_.2.2) ∧ (s_.2.2 ≠ gb272) ∧ (gb273 ≠ s_.2.2) ∧ (s_.2.2 ≠ gb273) ∧ (gb274 ≠ s_.2.2) ∧ (s_.2.2 ≠ gb274) ∧ (gb275 ≠ s_.2.2) ∧ (s_.2.2 ≠ gb275) ∧ (Below w.heap.size w w')) ?_ ?_
  rotate_left
  · intro hJ33_34_35
    refine join_ (σ:=Nat × Nat) 4 #[true,true,true,true,true,true,true,true,true,true,true,true,true,true,true,true,true,true,true,true,true,true,true,true,true,true,true,true,true,true,true,true,true,true,true,false,false,false,false] (fun s_ => [(12,.pointer (some ⟨s_.1,0,none⟩)),(13,.pointer (some ⟨s_.2,0,none⟩))]) (fun s_ w' => (w'.cell? ⟨gb272,0,none⟩ = some (.int .i64 a0_0) ∧ w'.cell? ⟨gb272,1,none⟩ = some (.int .i64 a0_1) ∧ w'.cell? ⟨gb275,0,none⟩ = some (.int .i64 (wrap64 (2 * (wrap64 (a3))))) ∧ w'.cell? ⟨gb275,1,none⟩ = some (.int .i64 (wrap64 (2 * (wrap64 (a4))))) ∧ w'.cell? ⟨gb273,0,none⟩ = some (.int .i64 a1_0) ∧ w'.cell? ⟨gb273,1,none⟩ = some (.int .i64 a1_1) ∧ w'.cell? ⟨gb274,0,none⟩ = some (.int .i64 a2_0) ∧ w'.cell? ⟨gb274,1,none⟩ = some (.int .i64 a2_1)) ∧ (w'.heap[gb272]? = some (.cells #[.int .i64 a0_0,.int .i64 a0_1] 23 (0,0))) ∧ (w'.heap[gb273]? = some (.cells #[.int .i64 a1_0,.int .i64 a1_1] 23 (0,0))) ∧ (w'.heap[gb274]? = some (.cells #[.int .i64 a2_0,.int .i64 a2_1] 23 (0,0))) ∧ (w'.heap[gb275]? = some (.cells #[.int .i64 (wrap64 (2 * (wrap64 (a3)))),.int .i64 (wrap64 (2 * (wrap64 (a4))))] 23 (0,0))) ∧ (w'.heap[s_.1]? = some (.cells #[.int .i64 0,.int .i64 0] 23 (0,0))) ∧ (w'.heap[s_.2]? = some (.cells #[.int .i64 0,.int .i64 0] 23 (0,0))) ∧ (w.heap.size ≤ s_.1) ∧ (w.heap.size ≤ s_.1) ∧ (gb272 ≠ s_.1) ∧ (s_.1 ≠ gb272) ∧ (gb273 ≠ s_.1) ∧ (s_.1 ≠ gb273) ∧ (gb274 ≠ s_.1) ∧ (s_.1 ≠ gb274) ∧ (gb275 ≠ s_.1) ∧ (s_.1 ≠ gb275) ∧ (s_.2 ≠ s_.1) ∧ (s_.1 ≠ s_.2) ∧ (w.heap.size ≤ s_.2) ∧ (w.heap.size ≤ s_.2) ∧ (gb272 ≠ s_.2) ∧ (s_.2 ≠ gb272) ∧ (gb273 ≠ s_.2) ∧ (s_.2 ≠ gb273) ∧ (gb274 ≠ s_.2) ∧ (s_.2 ≠ gb274) ∧ (gb275 ≠ s_.2) ∧ (s_.2 ≠ gb275) ∧ (Below w.heap.size w w')) ?_ ?_
    rotate_left
    · intro hJ33_34
      refine join_ (σ:=Nat × Nat) 4 #[true,true,true,true,true,true,true,true,true,true,true,true,true,true,true,true,true,true,true,true,true,true,true,true,true,true,true,true,true,true,true,true,true,true,false,true,false,false,false] (fun s_ => [(12,.pointer (some ⟨s_.1,0,none⟩)),(14,.pointer (some ⟨s_.2,0,none⟩))]) (fun s_ w' => (w'.cell? ⟨gb272,0,none⟩ = some (.int .i64 a0_0) ∧ w'.cell? ⟨gb272,1,none⟩ = some (.int .i64 a0_1) ∧ w'.cell? ⟨gb275,0,none⟩ = some (.int .i64 (wrap64 (2 * (wrap64 (a3))))) ∧ w'.cell? ⟨gb275,1,none⟩ = some (.int .i64 (wrap64 (2 * (wrap64 (a4))))) ∧ w'.cell? ⟨gb273,0,none⟩ = some (.int .i64 a1_0) ∧ w'.cell? ⟨gb273,1,none⟩ = some (.int .i64 a1_1) ∧ w'.cell? ⟨gb274,0,none⟩ = some (.int .i64 a2_0) ∧ w'.cell? ⟨gb274,1,none⟩ = some (.int .i64 a2_1)) ∧ (w'.heap[gb272]? = some (.cells #[.int .i64 a0_0,.int .i64 a0_1] 23 (0,0))) ∧ (w'.heap[gb273]? = some (.cells #[.int .i64 a1_0,.int .i64 a1_1] 23 (0,0))) ∧ (w'.heap[gb274]? = some (.cells #[.int .i64 a2_0,.int .i64 a2_1] 23 (0,0))) ∧ (w'.heap[gb275]? = some (.cells #[.int .i64 (wrap64 (2 * (wrap64 (a3)))),.int .i64 (wrap64 (2 * (wrap64 (a4))))] 23 (0,0))) ∧ (w'.heap[s_.1]? = some (.cells #[.int .i64 0,.int .i64 0] 23 (0,0))) ∧ (w'.heap[s_.2]? = some (.cells #[.int .i64 0,.int .i64 0] 23 (0,0))) ∧ (w.heap.size ≤ s_.1) ∧ (w.heap.size ≤ s_.1) ∧ (gb272 ≠ s_.1) ∧ (s_.1 ≠ gb272) ∧ (gb273 ≠ s_.1) ∧ (s_.1 ≠ gb273) ∧ (gb274 ≠ s_.1) ∧ (s_.1 ≠ gb274) ∧ (gb275 ≠ s_.1) ∧ (s_.1 ≠ gb275) ∧ (s_.2 ≠ s_.1) ∧ (s_.1 ≠ s_.2) ∧ (w.heap.size ≤ s_.2) ∧ (w.heap.size ≤ s_.2) ∧ (gb272 ≠ s_.2) ∧ (s_.2 ≠ gb272) ∧ (gb273 ≠ s_.2) ∧ (s_.2 ≠ gb273) ∧ (gb274 ≠ s_.2) ∧ (s_.2 ≠ gb274) ∧ (gb275 ≠ s_.2) ∧ (s_.2 ≠ gb275) ∧ (Below w.heap.size w w')) ?_ ?_
      rotate_left
      · intro hJ33_35
        refine join_ (σ:=Nat × Nat) 4 #[true,true,true,true,true,true,true,true,true,true,true,true,true,true,true,true,true,true,true,true,true,true,true,true,true,true,true,true,true,true,true,true,true,false,true,true,false,false,false] (fun s_ => [(13,.pointer (some ⟨s_.1,0,none⟩)),(14,.pointer (some ⟨s_.2,0,none⟩))]) (fun s_ w' => (w'.cell? ⟨gb272,0,none⟩ = some (.int .i64 a0_0) ∧ w'.cell? ⟨gb272,1,none⟩ = some (.int .i64 a0_1) ∧ w'.cell? ⟨gb275,0,none⟩ = some (.int .i64 (wrap64 (2 * (wrap64 (a3))))) ∧ w'.cell? ⟨gb275,1,none⟩ = some (.int .i64 (wrap64 (2 * (wrap64 (a4))))) ∧ w'.cell? ⟨gb273,0,none⟩ = some (.int .i64 a1_0) ∧ w'.cell? ⟨gb273,1,none⟩ = some (.int .i64 a1_1) ∧ w'.cell? ⟨gb274,0,none⟩ = some (.int .i64 a2_0) ∧ w'.cell? ⟨gb274,1,none⟩ = some (.int .i64 a2_1)) ∧ (w'.heap[gb272]? = some (.cells #[.int .i64 a0_0,.int .i64 a0_1] 23 (0,0))) ∧ (w'.heap[gb273]? = some (.cells #[.int .i64 a1_0,.int .i64 a1_1] 23 (0,0))) ∧ (w'.heap[gb274]? = some (.cells #[.int .i64 a2_0,.int .i64 a2_1] 23 (0,0))) ∧ (w'.heap[gb275]? = some (.cells #[.int .i64 (wrap64 (2 * (wrap64 (a3)))),.int .i64 (wrap64 (2 * (wrap64 (a4))))] 23 (0,0))) ∧ (w'.heap[s_.1]? = some (.cells #[.int .i64 0,.int .i64 0] 23 (0,0))) ∧ (w'.heap[s_.2]? = some (.cells #[.int .i64 0,.int .i64 0] 23 (0,0))) ∧ (w.heap.size ≤ s_.1) ∧ (w.heap.size ≤ s_.1) ∧ (gb272 ≠ s_.1) ∧ (s_.1 ≠ gb272) ∧ (gb273 ≠ s_.1) ∧ (s_.1 ≠ gb273) ∧ (gb274 ≠ s_.1) ∧ (s_.1 ≠ gb274) ∧ (gb275 ≠ s_.1) ∧ (s_.1 ≠ gb275) ∧ (s_.2 ≠ s_.1) ∧ (s_.1 ≠ s_.2) ∧ (w.heap.size ≤ s_.2) ∧ (w.heap.size ≤ s_.2) ∧ (gb272 ≠ s_.2) ∧ (s_.2 ≠ gb272) ∧ (gb273 ≠ s_.2) ∧ (s_.2 ≠ gb273) ∧ (gb274 ≠ s_.2) ∧ (s_.2 ≠ gb274) ∧ (gb275 ≠ s_.2) ∧ (s_.2 ≠ gb275) ∧ (Below w.heap.size w w')) ?_ ?_
        rotate_left
        · intro hJ34_35
          refine join_ (σ:=Nat) 5 #[true,true,true,true,true,true,true,true,true,true,true,true,true,true,true,true,true,true,true,true,true,true,true,true,true,true,true,true,true,true,true,true,true,true,false,false,false,false,false] (fun s_ => [(12,.pointer (some ⟨s_,0,none⟩))]) (fun s_ w' => (w'.cell? ⟨gb272,0,none⟩ = some (.int .i64 a0_0) ∧ w'.cell? ⟨gb272,1,none⟩ = some (.int .i64 a0_1) ∧ w'.cell? ⟨gb275,0,none⟩ = some (.int .i64 (wrap64 (2 * (wrap64 (a3))))) ∧ w'.cell? ⟨gb275,1,none⟩ = some (.int .i64 (wrap64 (2 * (wrap64 (a4))))) ∧ w'.cell? ⟨gb273,0,none⟩ = some (.int .i64 a1_0) ∧ w'.cell? ⟨gb273,1,none⟩ = some (.int .i64 a1_1) ∧ w'.cell? ⟨gb274,0,none⟩ = some (.int .i64 a2_0) ∧ w'.cell? ⟨gb274,1,none⟩ = some (.int .i64 a2_1)) ∧ (w'.heap[gb272]? = some (.cells #[.int .i64 a0_0,.int .i64 a0_1] 23 (0,0))) ∧ (w'.heap[gb273]? = some (.cells #[.int .i64 a1_0,.int .i64 a1_1] 23 (0,0))) ∧ (w'.heap[gb274]? = some (.cells #[.int .i64 a2_0,.int .i64 a2_1] 23 (0,0))) ∧ (w'.heap[gb275]? = some (.cells #[.int .i64 (wrap64 (2 * (wrap64 (a3)))),.int .i64 (wrap64 (2 * (wrap64 (a4))))] 23 (0,0))) ∧ (w'.heap[s_]? = some (.cells #[.int .i64 0,.int .i64 0] 23 (0,0))) ∧ (w.heap.size ≤ s_) ∧ (w.heap.size ≤ s_) ∧ (gb272 ≠ s_) ∧ (s_ ≠ gb272) ∧ (gb273 ≠ s_) ∧ (s_ ≠ gb273) ∧ (gb274 ≠ s_) ∧ (s_ ≠ gb274) ∧ (gb275 ≠ s_) ∧ (s_ ≠ gb275) ∧ (Below w.heap.size w w')) ?_ ?_
          rotate_left
          · intro hJ33
            refine join_ (σ:=Nat) 5 #[true,true,true,true,true,true,true,true,true,true,true,true,true,true,true,true,true,true,true,true,true,true,true,true,true,true,true,true,true,true,true,true,true,false,true,false,false,false,false] (fun s_ => [(13,.pointer (some ⟨s_,0,none⟩))]) (fun s_ w' => (w'.cell? ⟨gb272,0,none⟩ = some (.int .i64 a0_0) ∧ w'.cell? ⟨gb272,1,none⟩ = some (.int .i64 a0_1) ∧ w'.cell? ⟨gb275,0,none⟩ = some (.int .i64 (wrap64 (2 * (wrap64 (a3))))) ∧ w'.cell? ⟨gb275,1,none⟩ = some (.int .i64 (wrap64 (2 * (wrap64 (a4))))) ∧ w'.cell? ⟨gb273,0,none⟩ = some (.int .i64 a1_0) ∧ w'.cell? ⟨gb273,1,none⟩ = some (.int .i64 a1_1) ∧ w'.cell? ⟨gb274,0,none⟩ = some (.int .i64 a2_0) ∧ w'.cell? ⟨gb274,1,none⟩ = some (.int .i64 a2_1)) ∧ (w'.heap[gb272]? = some (.cells #[.int .i64 a0_0,.int .i64 a0_1] 23 (0,0))) ∧ (w'.heap[gb273]? = some (.cells #[.int .i64 a1_0,.int .i64 a1_1] 23 (0,0))) ∧ (w'.heap[gb274]? = some (.cells #[.int .i64 a2_0,.int .i64 a2_1] 23 (0,0))) ∧ (w'.heap[gb275]? = some (.cells #[.int .i64 (wrap64 (2 * (wrap64 (a3)))),.int .i64 (wrap64 (2 * (wrap64 (a4))))] 23 (0,0))) ∧ (w'.heap[s_]? = some (.cells #[.int .i64 0,.int .i64 0] 23 (0,0))) ∧ (w.heap.size ≤ s_) ∧ (w.heap.size ≤ s_) ∧ (gb272 ≠ s_) ∧ (s_ ≠ gb272) ∧ (gb273 ≠ s_) ∧ (s_ ≠ gb273) ∧ (gb274 ≠ s_) ∧ (s_ ≠ gb274) ∧ (gb275 ≠ s_) ∧ (s_ ≠ gb275) ∧ (Below w.heap.size w w')) ?_ ?_
            rotate_left
            · intro hJ34
              refine join_ (σ:=Nat) 5 #[true,true,true,true,true,true,true,true,true,true,true,true,true,true,true,true,true,true,true,true,true,true,true,true,true,true,true,true,true,true,true,true,true,false,false,true,false,false,false] (fun s_ => [(14,.pointer (some ⟨s_,0,none⟩))]) (fun s_ w' => (w'.cell? ⟨gb272,0,none⟩ = some (.int .i64 a0_0) ∧ w'.cell? ⟨gb272,1,none⟩ = some (.int .i64 a0_1) ∧ w'.cell? ⟨gb275,0,none⟩ = some (.int .i64 (wrap64 (2 * (wrap64 (a3))))) ∧ w'.cell? ⟨gb275,1,none⟩ = some (.int .i64 (wrap64 (2 * (wrap64 (a4))))) ∧ w'.cell? ⟨gb273,0,none⟩ = some (.int .i64 a1_0) ∧ w'.cell? ⟨gb273,1,none⟩ = some (.int .i64 a1_1) ∧ w'.cell? ⟨gb274,0,none⟩ = some (.int .i64 a2_0) ∧ w'.cell? ⟨gb274,1,none⟩ = some (.int .i64 a2_1)) ∧ (w'.heap[gb272]? = some (.cells #[.int .i64 a0_0,.int .i64 a0_1] 23 (0,0))) ∧ (w'.heap[gb273]? = some (.cells #[.int .i64 a1_0,.int .i64 a1_1] 23 (0,0))) ∧ (w'.heap[gb274]? = some (.cells #[.int .i64 a2_0,.int .i64 a2_1] 23 (0,0))) ∧ (w'.heap[gb275]? = some (.cells #[.int .i64 (wrap64 (2 * (wrap64 (a3)))),.int .i64 (wrap64 (2 * (wrap64 (a4))))] 23 (0,0))) ∧ (w'.heap[s_]? = some (.cells #[.int .i64 0,.int .i64 0] 23 (0,0))) ∧ (w.heap.size ≤ s_) ∧ (w.heap.size ≤ s_) ∧ (gb272 ≠ s_) ∧ (s_ ≠ gb272) ∧ (gb273 ≠ s_) ∧ (s_ ≠ gb273) ∧ (gb274 ≠ s_) ∧ (s_ ≠ gb274) ∧ (gb275 ≠ s_) ∧ (s_ ≠ gb275) ∧ (Below w.heap.size w w')) ?_ ?_
              rotate_left
              · intro hJ35
                refine three_ (i:=33) (j:=34) (k:=35) (Ni:=some 12) (Nj:=some 13) (Nk:=some 14) #[true,true,true,true,true,true,true,true,true,true,true,true,true,true,true,true,true,true,true,true,true,true,true,true,true,true,true,true,true,true,true,true,true,true,false,false,false,false,false] #[true,true,true,true,true,true,true,true,true,true,true,true,true,true,true,true,true,true,true,true,true,true,true,true,true,true,true,true,true,true,true,true,true,false,true,false,false,false,false] #[true,true,true,true,true,true,true,true,true,true,true,true,true,true,true,true,true,true,true,true,true,true,true,true,true,true,true,true,true,true,true,true,true,false,false,true,false,false,false] rfl rfl rfl rfl rfl rfl (three_of HT_.out (by kernel_rfl)) (by decide) (by decide) (by decide) (fun K hK => ?_) (fun K hK => ?_) (fun K hK => ?_)
                · skip
                  refine box_step ?hg (N:=12) ?hd (cs:=#[.int .i64 0,.int .i64 0]) (t:=23) ?hr ?_;(case hd => rfl);(case hg => rfl);(case hr => first|(go_simp;done)|(go_simp;rfl))
                  intro gb276 hg w17 hbox hb
                  have BK276:=am (hbox);have GW276:=am ((by rw [hg];exact (sz (by repeat (first|(with_reducible first|exact HB.out|apply sa|apply sn|apply sd|refine sy ?_ (by assumption))|exact HB.out))) : w.heap.size ≤ gb276));have GE276:=am ((by rw [hg];exact (sz (by repeat (first|(with_reducible first|exact HB.out|apply sa|apply sn|apply sd|refine sy ?_ (by assumption))|exact HB.out))) : w.heap.size ≤ gb276));replace HB:=am (ss (by repeat (first|(with_reducible first|exact HB.out|apply sa|apply sn|apply sd|refine sy ?_ (by assumption))|exact HB.out)) hb);have NB272_276:=nb (by exact BK272.out) hg;have NB276_272:=ng (by exact BK272.out) hg;replace BK272:=am (bw (by exact BK272.out) hb);have NB273_276:=nb (by exact BK273.out) hg;have NB276_273:=ng (by exact BK273.out) hg;replace BK273:=am (bw (by exact BK273.out) hb);have NB274_276:=nb (by exact BK274.out) hg;have NB276_274:=ng (by exact BK274.out) hg;replace BK274:=am (bw (by exact BK274.out) hb);have NB275_276:=nb (by exact BK275.out) hg;have NB276_275:=ng (by exact BK275.out) hg;replace BK275:=am (bw (by exact BK275.out) hb);clear hb hbox hg;refine hK.out _ _ ⟨(bc BK272.out 0).trans rfl,(bc BK272.out 1).trans rfl,(bc BK275.out 0).trans rfl,(bc BK275.out 1).trans rfl,(bc BK273.out 0).trans rfl,(bc BK273.out 1).trans rfl,(bc BK274.out 0).trans rfl,(bc BK274.out 1).trans rfl⟩ (fun hHeld => ?_);clear hK K;refine norm_ (a':=?_) ?_ ?_
                  rotate_left
                  · show Act.put _ (some 12) _ = _
                    simp only [Act.put,q1,q2,q3,i64_w,i32_w]
                    rfl
                  exact norm_ (by first|(simp only [putAll,Act.put,q1,q2,q3];done)|(simp only [putAll,Act.put,q1,q2,q3];rfl)) (hJ33 (gb276) _ ⟨hHeld,(by exact BK272.out),(by exact BK273.out),(by exact BK274.out),(by exact BK275.out),(by exact BK276.out),GW276.out,GE276.out,NB272_276.out,NB276_272.out,NB273_276.out,NB276_273.out,NB274_276.out,NB276_274.out,NB275_276.out,NB276_275.out,(by repeat (first|(with_reducible first|exact HB.out|apply sa|apply sn|apply sd|refine sy ?_ (by assumption))|exact HB.out))⟩)
                · skip
                  refine box_step ?hg (N:=13) ?hd (cs:=#[.int .i64 0,.int .i64 0]) (t:=23) ?hr ?_;(case hd => rfl);(case hg => rfl);(case hr => first|(go_simp;done)|(go_simp;rfl))
                  intro gb277 hg w17 hbox hb
                  have BK277:=am (hbox);have GW277:=am ((by rw [hg];exact (sz (by repeat (first|(with_reducible first|exact HB.out|apply sa|apply sn|apply sd|refine sy ?_ (by assumption))|exact HB.out))) : w.heap.size ≤ gb277));have GE277:=am ((by rw [hg];exact (sz (by repeat (first|(with_reducible first|exact HB.out|apply sa|apply sn|apply sd|refine sy ?_ (by assumption))|exact HB.out))) : w.heap.size ≤ gb277));replace HB:=am (ss (by repeat (first|(with_reducible first|exact HB.out|apply sa|apply sn|apply sd|refine sy ?_ (by assumption))|exact HB.out)) hb);have NB272_277:=nb (by exact BK272.out) hg;have NB277_272:=ng (by exact BK272.out) hg;replace BK272:=am (bw (by exact BK272.out) hb);have NB273_277:=nb (by exact BK273.out) hg;have NB277_273:=ng (by exact BK273.out) hg;replace BK273:=am (bw (by exact BK273.out) hb);have NB274_277:=nb (by exact BK274.out) hg;have NB277_274:=ng (by exact BK274.out) hg;replace BK274:=am (bw (by exact BK274.out) hb);have NB275_277:=nb (by exact BK275.out) hg;have NB277_275:=ng (by exact BK275.out) hg;replace BK275:=am (bw (by exact BK275.out) hb);clear hb hbox hg;refine hK.out _ _ ⟨(bc BK272.out 0).trans rfl,(bc BK272.out 1).trans rfl,(bc BK275.out 0).trans rfl,(bc BK275.out 1).trans rfl,(bc BK273.out 0).trans rfl,(bc BK273.out 1).trans rfl,(bc BK274.out 0).trans rfl,(bc BK274.out 1).trans rfl⟩ (fun hHeld => ?_);clear hK K;refine norm_ (a':=?_) ?_ ?_
                  rotate_left
                  · show Act.put _ (some 13) _ = _
                    simp only [Act.put,q1,q2,q3,i64_w,i32_w]
                    rfl
                  exact norm_ (by first|(simp only [putAll,Act.put,q1,q2,q3];done)|(simp only [putAll,Act.put,q1,q2,q3];rfl)) (hJ34 (gb277) _ ⟨hHeld,(by exact BK272.out),(by exact BK273.out),(by exact BK274.out),(by exact BK275.out),(by exact BK277.out),GW277.out,GE277.out,NB272_277.out,NB277_272.out,NB273_277.out,NB277_273.out,NB274_277.out,NB277_274.out,NB275_277.out,NB277_275.out,(by repeat (first|(with_reducible first|exact HB.out|apply sa|apply sn|apply sd|refine sy ?_ (by assumption))|exact HB.out))⟩)
                · skip
                  refine box_step ?hg (N:=14) ?hd (cs:=#[.int .i64 0,.int .i64 0]) (t:=23) ?hr ?_;(case hd => rfl);(case hg => rfl);(case hr => first|(go_simp;done)|(go_simp;rfl))
                  intro gb278 hg w17 hbox hb
                  have BK278:=am (hbox);have GW278:=am ((by rw [hg];exact (sz (by repeat (first|(with_reducible first|exact HB.out|apply sa|apply sn|apply sd|refine sy ?_ (by assumption))|exact HB.out))) : w.heap.size ≤ gb278));have GE278:=am ((by rw [hg];exact (sz (by repeat (first|(with_reducible first|exact HB.out|apply sa|apply sn|apply sd|refine sy ?_ (by assumption))|exact HB.out))) : w.heap.size ≤ gb278));replace HB:=am (ss (by repeat (first|(with_reducible first|exact HB.out|apply sa|apply sn|apply sd|refine sy ?_ (by assumption))|exact HB.out)) hb);have NB272_278:=nb (by exact BK272.out) hg;have NB278_272:=ng (by exact BK272.out) hg;replace BK272:=am (bw (by exact BK272.out) hb);have NB273_278:=nb (by exact BK273.out) hg;have NB278_273:=ng (by exact BK273.out) hg;replace BK273:=am (bw (by exact BK273.out) hb);have NB274_278:=nb (by exact BK274.out) hg;have NB278_274:=ng (by exact BK274.out) hg;replace BK274:=am (bw (by exact BK274.out) hb);have NB275_278:=nb (by exact BK275.out) hg;have NB278_275:=ng (by exact BK275.out) hg;replace BK275:=am (bw (by exact BK275.out) hb);clear hb hbox hg;refine hK.out _ _ ⟨(bc BK272.out 0).trans rfl,(bc BK272.out 1).trans rfl,(bc BK275.out 0).trans rfl,(bc BK275.out 1).trans rfl,(bc BK273.out 0).trans rfl,(bc BK273.out 1).trans rfl,(bc BK274.out 0).trans rfl,(bc BK274.out 1).trans rfl⟩ (fun hHeld => ?_);clear hK K;refine norm_ (a':=?_) ?_ ?_
                  rotate_left
                  · show Act.put _ (some 14) _ = _
                    simp only [Act.put,q1,q2,q3,i64_w,i32_w]
                    rfl
                  exact norm_ (by first|(simp only [putAll,Act.put,q1,q2,q3];done)|(simp only [putAll,Act.put,q1,q2,q3];rfl)) (hJ35 (gb278) _ ⟨hHeld,(by exact BK272.out),(by exact BK273.out),(by exact BK274.out),(by exact BK275.out),(by exact BK278.out),GW278.out,GE278.out,NB272_278.out,NB278_272.out,NB273_278.out,NB278_273.out,NB274_278.out,NB278_274.out,NB275_278.out,NB278_275.out,(by repeat (first|(with_reducible first|exact HB.out|apply sa|apply sn|apply sd|refine sy ?_ (by assumption))|exact HB.out))⟩)
              · skip
                rintro gb278 w18 ⟨hS_,h0_,h1_,h2_,h3_,h4_,h5_,h6_,h7_,h8_,h9_,h10_,h11_,h12_,h13_,h14_,h15_⟩
                have n0_ : Aside0 (w18.heap[gb272]? = some (.cells #[.int .i64 a0_0,.int .i64 a0_1] 23 (0,0))):=⟨h0_⟩;have n1_ : Aside0 (w18.heap[gb273]? = some (.cells #[.int .i64 a1_0,.int .i64 a1_1] 23 (0,0))):=⟨h1_⟩;have n2_ : Aside0 (w18.heap[gb274]? = some (.cells #[.int .i64 a2_0,.int .i64 a2_1] 23 (0,0))):=⟨h2_⟩;have n3_ : Aside0 (w18.heap[gb275]? = some (.cells #[.int .i64 (wrap64 (2 * (wrap64 (a3)))),.int .i64 (wrap64 (2 * (wrap64 (a4))))] 23 (0,0))):=⟨h3_⟩;have n4_ : Aside0 (w18.heap[gb278]? = some (.cells #[.int .i64 0,.int .i64 0] 23 (0,0))):=⟨h4_⟩;have n5_ : Aside0 (w.heap.size ≤ gb278):=⟨h5_⟩;have n6_ : Aside0 (w.heap.size ≤ gb278):=⟨h6_⟩;have n7_ : Aside0 (gb272 ≠ gb278):=⟨h7_⟩;have n8_ : Aside0 (gb278 ≠ gb272):=⟨h8_⟩;have n9_ : Aside0 (gb273 ≠ gb278):=⟨h9_⟩;have n10_ : Aside0 (gb278 ≠ gb273):=⟨h10_⟩;have n11_ : Aside0 (gb274 ≠ gb278):=⟨h11_⟩;have n12_ : Aside0 (gb278 ≠ gb274):=⟨h12_⟩;have n13_ : Aside0 (gb275 ≠ gb278):=⟨h13_⟩;have n14_ : Aside0 (gb278 ≠ gb275):=⟨h14_⟩;have n15_ : Aside0 (Below w.heap.size w w18):=⟨h15_⟩;clear BK272;clear BK273;clear BK274;clear BK275;clear HB;clear h0_ h1_ h2_ h3_ h4_ h5_ h6_ h7_ h8_ h9_ h10_ h11_ h12_ h13_ h14_ h15_;have BK272:=n0_;have BK273:=n1_;have BK274:=n2_;have BK275:=n3_;have BK278:=n4_;have GW278:=n5_;have GE278:=n6_;have NB272_278:=n7_;have NB278_272:=n8_;have NB273_278:=n9_;have NB278_273:=n10_;have NB274_278:=n11_;have NB278_274:=n12_;have NB275_278:=n13_;have NB278_275:=n14_;have HB:=n15_;clear n0_ n1_ n2_ n3_ n4_ n5_ n6_ n7_ n8_ n9_ n10_ n11_ n12_ n13_ n14_ n15_;have hHeld : w18.cell? ⟨gb272,0,none⟩ = some (.int .i64 a0_0) ∧ w18.cell? ⟨gb272,1,none⟩ = some (.int .i64 a0_1) ∧ w18.cell? ⟨gb275,0,none⟩ = some (.int .i64 (wrap64 (2 * (wrap64 (a3))))) ∧ w18.cell? ⟨gb275,1,none⟩ = some (.int .i64 (wrap64 (2 * (wrap64 (a4))))) ∧ w18.cell? ⟨gb273,0,none⟩ = some (.int .i64 a1_0) ∧ w18.cell? ⟨gb273,1,none⟩ = some (.int .i64 a1_1) ∧ w18.cell? ⟨gb274,0,none⟩ = some (.int .i64 a2_0) ∧ w18.cell? ⟨gb274,1,none⟩ = some (.int .i64 a2_1):=hS_;refine norm_ (a':=?_) ?_ ?_
                rotate_left
                · simp only [putAll,Act.put,q1,q2,q3]
                  rfl
                refine two_ (i:=33) (j:=34) (Ni:=some 12) (Nj:=some 13) #[true,true,true,true,true,true,true,true,true,true,true,true,true,true,true,true,true,true,true,true,true,true,true,true,true,true,true,true,true,true,true,true,true,true,false,true,false,false,false] #[true,true,true,true,true,true,true,true,true,true,true,true,true,true,true,true,true,true,true,true,true,true,true,true,true,true,true,true,true,true,true,true,true,false,true,true,false,false,false] rfl rfl rfl rfl (two_of HT_.out (by kernel_rfl)) (by decide) (by decide) (fun K hK => ?_) (fun K hK => ?_)
                · skip
                  refine box_step ?hg (N:=12) ?hd (cs:=#[.int .i64 0,.int .i64 0]) (t:=23) ?hr ?_;(case hd => rfl);(case hg => rfl);(case hr => first|(go_simp;done)|(go_simp;rfl))
                  intro gb276 hg w19 hbox hb
                  have BK276:=am (hbox);have GW276:=am ((by rw [hg];exact (sz (by repeat (first|(with_reducible first|exact HB.out|apply sa|apply sn|apply sd|refine sy ?_ (by assumption))|exact HB.out))) : w.heap.size ≤ gb276));have GE276:=am ((by rw [hg];exact (sz (by repeat (first|(with_reducible first|exact HB.out|apply sa|apply sn|apply sd|refine sy ?_ (by assumption))|exact HB.out))) : w.heap.size ≤ gb276));replace HB:=am (ss (by repeat (first|(with_reducible first|exact HB.out|apply sa|apply sn|apply sd|refine sy ?_ (by assumption))|exact HB.out)) hb);have NB272_276:=nb (by exact BK272.out) hg;have NB276_272:=ng (by exact BK272.out) hg;replace BK272:=am (bw (by exact BK272.out) hb);have NB273_276:=nb (by exact BK273.out) hg;have NB276_273:=ng (by exact BK273.out) hg;replace BK273:=am (bw (by exact BK273.out) hb);have NB274_276:=nb (by exact BK274.out) hg;have NB276_274:=ng (by exact BK274.out) hg;replace BK274:=am (bw (by exact BK274.out) hb);have NB275_276:=nb (by exact BK275.out) hg;have NB276_275:=ng (by exact BK275.out) hg;replace BK275:=am (bw (by exact BK275.out) hb);have NB278_276:=nb (by exact BK278.out) hg;have NB276_278:=ng (by exact BK278.out) hg;replace BK278:=am (bw (by exact BK278.out) hb);clear hb hbox hg;refine hK.out _ _ ⟨(bc BK272.out 0).trans rfl,(bc BK272.out 1).trans rfl,(bc BK275.out 0).trans rfl,(bc BK275.out 1).trans rfl,(bc BK273.out 0).trans rfl,(bc BK273.out 1).trans rfl,(bc BK274.out 0).trans rfl,(bc BK274.out 1).trans rfl⟩ (fun hHeld => ?_);clear hK K;refine norm_ (a':=?_) ?_ ?_
                  rotate_left
                  · show Act.put _ (some 12) _ = _
                    simp only [Act.put,q1,q2,q3,i64_w,i32_w]
                    rfl
                  exact norm_ (by first|(simp only [putAll,Act.put,q1,q2,q3];done)|(simp only [putAll,Act.put,q1,q2,q3];rfl)) (hJ33_35 (gb276,gb278) _ ⟨hHeld,(by exact BK272.out),(by exact BK273.out),(by exact BK274.out),(by exact BK275.out),(by exact BK276.out),(by exact BK278.out),GW276.out,GE276.out,NB272_276.out,NB276_272.out,NB273_276.out,NB276_273.out,NB274_276.out,NB276_274.out,NB275_276.out,NB276_275.out,NB278_276.out,NB276_278.out,GW278.out,GE278.out,NB272_278.out,NB278_272.out,NB273_278.out,NB278_273.out,NB274_278.out,NB278_274.out,NB275_278.out,NB278_275.out,(by repeat (first|(with_reducible first|exact HB.out|apply sa|apply sn|apply sd|refine sy ?_ (by assumption))|exact HB.out))⟩)
                · skip
                  refine box_step ?hg (N:=13) ?hd (cs:=#[.int .i64 0,.int .i64 0]) (t:=23) ?hr ?_;(case hd => rfl);(case hg => rfl);(case hr => first|(go_simp;done)|(go_simp;rfl))
                  intro gb277 hg w19 hbox hb
                  have BK277:=am (hbox);have GW277:=am ((by rw [hg];exact (sz (by repeat (first|(with_reducible first|exact HB.out|apply sa|apply sn|apply sd|refine sy ?_ (by assumption))|exact HB.out))) : w.heap.size ≤ gb277));have GE277:=am ((by rw [hg];exact (sz (by repeat (first|(with_reducible first|exact HB.out|apply sa|apply sn|apply sd|refine sy ?_ (by assumption))|exact HB.out))) : w.heap.size ≤ gb277));replace HB:=am (ss (by repeat (first|(with_reducible first|exact HB.out|apply sa|apply sn|apply sd|refine sy ?_ (by assumption))|exact HB.out)) hb);have NB272_277:=nb (by exact BK272.out) hg;have NB277_272:=ng (by exact BK272.out) hg;replace BK272:=am (bw (by exact BK272.out) hb);have NB273_277:=nb (by exact BK273.out) hg;have NB277_273:=ng (by exact BK273.out) hg;replace BK273:=am (bw (by exact BK273.out) hb);have NB274_277:=nb (by exact BK274.out) hg;have NB277_274:=ng (by exact BK274.out) hg;replace BK274:=am (bw (by exact BK274.out) hb);have NB275_277:=nb (by exact BK275.out) hg;have NB277_275:=ng (by exact BK275.out) hg;replace BK275:=am (bw (by exact BK275.out) hb);have NB278_277:=nb (by exact BK278.out) hg;have NB277_278:=ng (by exact BK278.out) hg;replace BK278:=am (bw (by exact BK278.out) hb);clear hb hbox hg;refine hK.out _ _ ⟨(bc BK272.out 0).trans rfl,(bc BK272.out 1).trans rfl,(bc BK275.out 0).trans rfl,(bc BK275.out 1).trans rfl,(bc BK273.out 0).trans rfl,(bc BK273.out 1).trans rfl,(bc BK274.out 0).trans rfl,(bc BK274.out 1).trans rfl⟩ (fun hHeld => ?_);clear hK K;refine norm_ (a':=?_) ?_ ?_
                  rotate_left
                  · show Act.put _ (some 13) _ = _
                    simp only [Act.put,q1,q2,q3,i64_w,i32_w]
                    rfl
                  exact norm_ (by first|(simp only [putAll,Act.put,q1,q2,q3];done)|(simp only [putAll,Act.put,q1,q2,q3];rfl)) (hJ34_35 (gb277,gb278) _ ⟨hHeld,(by exact BK272.out),(by exact BK273.out),(by exact BK274.out),(by exact BK275.out),(by exact BK277.out),(by exact BK278.out),GW277.out,GE277.out,NB272_277.out,NB277_272.out,NB273_277.out,NB277_273.out,NB274_277.out,NB277_274.out,NB275_277.out,NB277_275.out,NB278_277.out,NB277_278.out,GW278.out,GE278.out,NB272_278.out,NB278_272.out,NB273_278.out,NB278_273.out,NB274_278.out,NB278_274.out,NB275_278.out,NB278_275.out,(by repeat (first|(with_reducible first|exact HB.out|apply sa|apply sn|apply sd|refine sy ?_ (by assumption))|exact HB.out))⟩)
            · skip
              rintro gb277 w18 ⟨hS_,h0_,h1_,h2_,h3_,h4_,h5_,h6_,h7_,h8_,h9_,h10_,h11_,h12_,h13_,h14_,h15_⟩
              have n0_ : Aside0 (w18.heap[gb272]? = some (.cells #[.int .i64 a0_0,.int .i64 a0_1] 23 (0,0))):=⟨h0_⟩;have n1_ : Aside0 (w18.heap[gb273]? = some (.cells #[.int .i64 a1_0,.int .i64 a1_1] 23 (0,0))):=⟨h1_⟩;have n2_ : Aside0 (w18.heap[gb274]? = some (.cells #[.int .i64 a2_0,.int .i64 a2_1] 23 (0,0))):=⟨h2_⟩;have n3_ : Aside0 (w18.heap[gb275]? = some (.cells #[.int .i64 (wrap64 (2 * (wrap64 (a3)))),.int .i64 (wrap64 (2 * (wrap64 (a4))))] 23 (0,0))):=⟨h3_⟩;have n4_ : Aside0 (w18.heap[gb277]? = some (.cells #[.int .i64 0,.int .i64 0] 23 (0,0))):=⟨h4_⟩;have n5_ : Aside0 (w.heap.size ≤ gb277):=⟨h5_⟩;have n6_ : Aside0 (w.heap.size ≤ gb277):=⟨h6_⟩;have n7_ : Aside0 (gb272 ≠ gb277):=⟨h7_⟩;have n8_ : Aside0 (gb277 ≠ gb272):=⟨h8_⟩;have n9_ : Aside0 (gb273 ≠ gb277):=⟨h9_⟩;have n10_ : Aside0 (gb277 ≠ gb273):=⟨h10_⟩;have n11_ : Aside0 (gb274 ≠ gb277):=⟨h11_⟩;have n12_ : Aside0 (gb277 ≠ gb274):=⟨h12_⟩;have n13_ : Aside0 (gb275 ≠ gb277):=⟨h13_⟩;have n14_ : Aside0 (gb277 ≠ gb275):=⟨h14_⟩;have n15_ : Aside0 (Below w.heap.size w w18):=⟨h15_⟩;clear BK272;clear BK273;clear BK274;clear BK275;clear HB;clear h0_ h1_ h2_ h3_ h4_ h5_ h6_ h7_ h8_ h9_ h10_ h11_ h12_ h13_ h14_ h15_;have BK272:=n0_;have BK273:=n1_;have BK274:=n2_;have BK275:=n3_;have BK277:=n4_;have GW277:=n5_;have GE277:=n6_;have NB272_277:=n7_;have NB277_272:=n8_;have NB273_277:=n9_;have NB277_273:=n10_;have NB274_277:=n11_;have NB277_274:=n12_;have NB275_277:=n13_;have NB277_275:=n14_;have HB:=n15_;clear n0_ n1_ n2_ n3_ n4_ n5_ n6_ n7_ n8_ n9_ n10_ n11_ n12_ n13_ n14_ n15_;have hHeld : w18.cell? ⟨gb272,0,none⟩ = some (.int .i64 a0_0) ∧ w18.cell? ⟨gb272,1,none⟩ = some (.int .i64 a0_1) ∧ w18.cell? ⟨gb275,0,none⟩ = some (.int .i64 (wrap64 (2 * (wrap64 (a3))))) ∧ w18.cell? ⟨gb275,1,none⟩ = some (.int .i64 (wrap64 (2 * (wrap64 (a4))))) ∧ w18.cell? ⟨gb273,0,none⟩ = some (.int .i64 a1_0) ∧ w18.cell? ⟨gb273,1,none⟩ = some (.int .i64 a1_1) ∧ w18.cell? ⟨gb274,0,none⟩ = some (.int .i64 a2_0) ∧ w18.cell? ⟨gb274,1,none⟩ = some (.int .i64 a2_1):=hS_;refine norm_ (a':=?_) ?_ ?_
              rotate_left
              · simp only [putAll,Act.put,q1,q2,q3]
                rfl
              refine two_ (i:=33) (j:=35) (Ni:=some 12) (Nj:=some 14) #[true,true,true,true,true,true,true,true,true,true,true,true,true,true,true,true,true,true,true,true,true,true,true,true,true,true,true,true,true,true,true,true,true,true,true,false,false,false,false] #[true,true,true,true,true,true,true,true,true,true,true,true,true,true,true,true,true,true,true,true,true,true,true,true,true,true,true,true,true,true,true,true,true,false,true,true,false,false,false] rfl rfl rfl rfl (two_of HT_.out (by kernel_rfl)) (by decide) (by decide) (fun K hK => ?_) (fun K hK => ?_)
              · skip
                refine box_step ?hg (N:=12) ?hd (cs:=#[.int .i64 0,.int .i64 0]) (t:=23) ?hr ?_;(case hd => rfl);(case hg => rfl);(case hr => first|(go_simp;done)|(go_simp;rfl))
                intro gb276 hg w19 hbox hb
                have BK276:=am (hbox);have GW276:=am ((by rw [hg];exact (sz (by repeat (first|(with_reducible first|exact HB.out|apply sa|apply sn|apply sd|refine sy ?_ (by assumption))|exact HB.out))) : w.heap.size ≤ gb276));have GE276:=am ((by rw [hg];exact (sz (by repeat (first|(with_reducible first|exact HB.out|apply sa|apply sn|apply sd|refine sy ?_ (by assumption))|exact HB.out))) : w.heap.size ≤ gb276));replace HB:=am (ss (by repeat (first|(with_reducible first|exact HB.out|apply sa|apply sn|apply sd|refine sy ?_ (by assumption))|exact HB.out)) hb);have NB272_276:=nb (by exact BK272.out) hg;have NB276_272:=ng (by exact BK272.out) hg;replace BK272:=am (bw (by exact BK272.out) hb);have NB273_276:=nb (by exact BK273.out) hg;have NB276_273:=ng (by exact BK273.out) hg;replace BK273:=am (bw (by exact BK273.out) hb);have NB274_276:=nb (by exact BK274.out) hg;have NB276_274:=ng (by exact BK274.out) hg;replace BK274:=am (bw (by exact BK274.out) hb);have NB275_276:=nb (by exact BK275.out) hg;have NB276_275:=ng (by exact BK275.out) hg;replace BK275:=am (bw (by exact BK275.out) hb);have NB277_276:=nb (by exact BK277.out) hg;have NB276_277:=ng (by exact BK277.out) hg;replace BK277:=am (bw (by exact BK277.out) hb);clear hb hbox hg;refine hK.out _ _ ⟨(bc BK272.out 0).trans rfl,(bc BK272.out 1).trans rfl,(bc BK275.out 0).trans rfl,(bc BK275.out 1).trans rfl,(bc BK273.out 0).trans rfl,(bc BK273.out 1).trans rfl,(bc BK274.out 0).trans rfl,(bc BK274.out 1).trans rfl⟩ (fun hHeld => ?_);clear hK K;refine norm_ (a':=?_) ?_ ?_
                rotate_left
                · show Act.put _ (some 12) _ = _
                  simp only [Act.put,q1,q2,q3,i64_w,i32_w]
                  rfl
                exact norm_ (by first|(simp only [putAll,Act.put,q1,q2,q3];done)|(simp only [putAll,Act.put,q1,q2,q3];rfl)) (hJ33_34 (gb276,gb277) _ ⟨hHeld,(by exact BK272.out),(by exact BK273.out),(by exact BK274.out),(by exact BK275.out),(by exact BK276.out),(by exact BK277.out),GW276.out,GE276.out,NB272_276.out,NB276_272.out,NB273_276.out,NB276_273.out,NB274_276.out,NB276_274.out,NB275_276.out,NB276_275.out,NB277_276.out,NB276_277.out,GW277.out,GE277.out,NB272_277.out,NB277_272.out,NB273_277.out,NB277_273.out,NB274_277.out,NB277_274.out,NB275_277.out,NB277_275.out,(by repeat (first|(with_reducible first|exact HB.out|apply sa|apply sn|apply sd|refine sy ?_ (by assumption))|exact HB.out))⟩)
              · skip
                refine box_step ?hg (N:=14) ?hd (cs:=#[.int .i64 0,.int .i64 0]) (t:=23) ?hr ?_;(case hd => rfl);(case hg => rfl);(case hr => first|(go_simp;done)|(go_simp;rfl))
                intro gb278 hg w19 hbox hb
                have BK278:=am (hbox);have GW278:=am ((by rw [hg];exact (sz (by repeat (first|(with_reducible first|exact HB.out|apply sa|apply sn|apply sd|refine sy ?_ (by assumption))|exact HB.out))) : w.heap.size ≤ gb278));have GE278:=am ((by rw [hg];exact (sz (by repeat (first|(with_reducible first|exact HB.out|apply sa|apply sn|apply sd|refine sy ?_ (by assumption))|exact HB.out))) : w.heap.size ≤ gb278));replace HB:=am (ss (by repeat (first|(with_reducible first|exact HB.out|apply sa|apply sn|apply sd|refine sy ?_ (by assumption))|exact HB.out)) hb);have NB272_278:=nb (by exact BK272.out) hg;have NB278_272:=ng (by exact BK272.out) hg;replace BK272:=am (bw (by exact BK272.out) hb);have NB273_278:=nb (by exact BK273.out) hg;have NB278_273:=ng (by exact BK273.out) hg;replace BK273:=am (bw (by exact BK273.out) hb);have NB274_278:=nb (by exact BK274.out) hg;have NB278_274:=ng (by exact BK274.out) hg;replace BK274:=am (bw (by exact BK274.out) hb);have NB275_278:=nb (by exact BK275.out) hg;have NB278_275:=ng (by exact BK275.out) hg;replace BK275:=am (bw (by exact BK275.out) hb);have NB277_278:=nb (by exact BK277.out) hg;have NB278_277:=ng (by exact BK277.out) hg;replace BK277:=am (bw (by exact BK277.out) hb);clear hb hbox hg;refine hK.out _ _ ⟨(bc BK272.out 0).trans rfl,(bc BK272.out 1).trans rfl,(bc BK275.out 0).trans rfl,(bc BK275.out 1).trans rfl,(bc BK273.out 0).trans rfl,(bc BK273.out 1).trans rfl,(bc BK274.out 0).trans rfl,(bc BK274.out 1).trans rfl⟩ (fun hHeld => ?_);clear hK K;refine norm_ (a':=?_) ?_ ?_
                rotate_left
                · show Act.put _ (some 14) _ = _
                  simp only [Act.put,q1,q2,q3,i64_w,i32_w]
                  rfl
                exact norm_ (by first|(simp only [putAll,Act.put,q1,q2,q3];done)|(simp only [putAll,Act.put,q1,q2,q3];rfl)) (hJ34_35 (gb277,gb278) _ ⟨hHeld,(by exact BK272.out),(by exact BK273.out),(by exact BK274.out),(by exact BK275.out),(by exact BK277.out),(by exact BK278.out),GW277.out,GE277.out,NB272_277.out,NB277_272.out,NB273_277.out,NB277_273.out,NB274_277.out,NB277_274.out,NB275_277.out,NB277_275.out,NB278_277.out,NB277_278.out,GW278.out,GE278.out,NB272_278.out,NB278_272.out,NB273_278.out,NB278_273.out,NB274_278.out,NB278_274.out,NB275_278.out,NB278_275.out,(by repeat (first|(with_reducible first|exact HB.out|apply sa|apply sn|apply sd|refine sy ?_ (by assumption))|exact HB.out))⟩)
          · skip
            rintro gb276 w18 ⟨hS_,h0_,h1_,h2_,h3_,h4_,h5_,h6_,h7_,h8_,h9_,h10_,h11_,h12_,h13_,h14_,h15_⟩
            have n0_ : Aside0 (w18.heap[gb272]? = some (.cells #[.int .i64 a0_0,.int .i64 a0_1] 23 (0,0))):=⟨h0_⟩;have n1_ : Aside0 (w18.heap[gb273]? = some (.cells #[.int .i64 a1_0,.int .i64 a1_1] 23 (0,0))):=⟨h1_⟩;have n2_ : Aside0 (w18.heap[gb274]? = some (.cells #[.int .i64 a2_0,.int .i64 a2_1] 23 (0,0))):=⟨h2_⟩;have n3_ : Aside0 (w18.heap[gb275]? = some (.cells #[.int .i64 (wrap64 (2 * (wrap64 (a3)))),.int .i64 (wrap64 (2 * (wrap64 (a4))))] 23 (0,0))):=⟨h3_⟩;have n4_ : Aside0 (w18.heap[gb276]? = some (.cells #[.int .i64 0,.int .i64 0] 23 (0,0))):=⟨h4_⟩;have n5_ : Aside0 (w.heap.size ≤ gb276):=⟨h5_⟩;have n6_ : Aside0 (w.heap.size ≤ gb276):=⟨h6_⟩;have n7_ : Aside0 (gb272 ≠ gb276):=⟨h7_⟩;have n8_ : Aside0 (gb276 ≠ gb272):=⟨h8_⟩;have n9_ : Aside0 (gb273 ≠ gb276):=⟨h9_⟩;have n10_ : Aside0 (gb276 ≠ gb273):=⟨h10_⟩;have n11_ : Aside0 (gb274 ≠ gb276):=⟨h11_⟩;have n12_ : Aside0 (gb276 ≠ gb274):=⟨h12_⟩;have n13_ : Aside0 (gb275 ≠ gb276):=⟨h13_⟩;have n14_ : Aside0 (gb276 ≠ gb275):=⟨h14_⟩;have n15_ : Aside0 (Below w.heap.size w w18):=⟨h15_⟩;clear BK272;clear BK273;clear BK274;clear BK275;clear HB;clear h0_ h1_ h2_ h3_ h4_ h5_ h6_ h7_ h8_ h9_ h10_ h11_ h12_ h13_ h14_ h15_;have BK272:=n0_;have BK273:=n1_;have BK274:=n2_;have BK275:=n3_;have BK276:=n4_;have GW276:=n5_;have GE276:=n6_;have NB272_276:=n7_;have NB276_272:=n8_;have NB273_276:=n9_;have NB276_273:=n10_;have NB274_276:=n11_;have NB276_274:=n12_;have NB275_276:=n13_;have NB276_275:=n14_;have HB:=n15_;clear n0_ n1_ n2_ n3_ n4_ n5_ n6_ n7_ n8_ n9_ n10_ n11_ n12_ n13_ n14_ n15_;have hHeld : w18.cell? ⟨gb272,0,none⟩ = some (.int .i64 a0_0) ∧ w18.cell? ⟨gb272,1,none⟩ = some (.int .i64 a0_1) ∧ w18.cell? ⟨gb275,0,none⟩ = some (.int .i64 (wrap64 (2 * (wrap64 (a3))))) ∧ w18.cell? ⟨gb275,1,none⟩ = some (.int .i64 (wrap64 (2 * (wrap64 (a4))))) ∧ w18.cell? ⟨gb273,0,none⟩ = some (.int .i64 a1_0) ∧ w18.cell? ⟨gb273,1,none⟩ = some (.int .i64 a1_1) ∧ w18.cell? ⟨gb274,0,none⟩ = some (.int .i64 a2_0) ∧ w18.cell? ⟨gb274,1,none⟩ = some (.int .i64 a2_1):=hS_;refine norm_ (a':=?_) ?_ ?_
            rotate_left
            · simp only [putAll,Act.put,q1,q2,q3]
              rfl
            refine two_ (i:=34) (j:=35) (Ni:=some 13) (Nj:=some 14) #[true,true,true,true,true,true,true,true,true,true,true,true,true,true,true,true,true,true,true,true,true,true,true,true,true,true,true,true,true,true,true,true,true,true,true,false,false,false,false] #[true,true,true,true,true,true,true,true,true,true,true,true,true,true,true,true,true,true,true,true,true,true,true,true,true,true,true,true,true,true,true,true,true,true,false,true,false,false,false] rfl rfl rfl rfl (two_of HT_.out (by kernel_rfl)) (by decide) (by decide) (fun K hK => ?_) (fun K hK => ?_)
            · skip
              refine box_step ?hg (N:=13) ?hd (cs:=#[.int .i64 0,.int .i64 0]) (t:=23) ?hr ?_;(case hd => rfl);(case hg => rfl);(case hr => first|(go_simp;done)|(go_simp;rfl))
              intro gb277 hg w19 hbox hb
              have BK277:=am (hbox);have GW277:=am ((by rw [hg];exact (sz (by repeat (first|(with_reducible first|exact HB.out|apply sa|apply sn|apply sd|refine sy ?_ (by assumption))|exact HB.out))) : w.heap.size ≤ gb277));have GE277:=am ((by rw [hg];exact (sz (by repeat (first|(with_reducible first|exact HB.out|apply sa|apply sn|apply sd|refine sy ?_ (by assumption))|exact HB.out))) : w.heap.size ≤ gb277));replace HB:=am (ss (by repeat (first|(with_reducible first|exact HB.out|apply sa|apply sn|apply sd|refine sy ?_ (by assumption))|exact HB.out)) hb);have NB272_277:=nb (by exact BK272.out) hg;have NB277_272:=ng (by exact BK272.out) hg;replace BK272:=am (bw (by exact BK272.out) hb);have NB273_277:=nb (by exact BK273.out) hg;have NB277_273:=ng (by exact BK273.out) hg;replace BK273:=am (bw (by exact BK273.out) hb);have NB274_277:=nb (by exact BK274.out) hg;have NB277_274:=ng (by exact BK274.out) hg;replace BK274:=am (bw (by exact BK274.out) hb);have NB275_277:=nb (by exact BK275.out) hg;have NB277_275:=ng (by exact BK275.out) hg;replace BK275:=am (bw (by exact BK275.out) hb);have NB276_277:=nb (by exact BK276.out) hg;have NB277_276:=ng (by exact BK276.out) hg;replace BK276:=am (bw (by exact BK276.out) hb);clear hb hbox hg;refine hK.out _ _ ⟨(bc BK272.out 0).trans rfl,(bc BK272.out 1).trans rfl,(bc BK275.out 0).trans rfl,(bc BK275.out 1).trans rfl,(bc BK273.out 0).trans rfl,(bc BK273.out 1).trans rfl,(bc BK274.out 0).trans rfl,(bc BK274.out 1).trans rfl⟩ (fun hHeld => ?_);clear hK K;refine norm_ (a':=?_) ?_ ?_
              rotate_left
              · show Act.put _ (some 13) _ = _
                simp only [Act.put,q1,q2,q3,i64_w,i32_w]
                rfl
              exact norm_ (by first|(simp only [putAll,Act.put,q1,q2,q3];done)|(simp only [putAll,Act.put,q1,q2,q3];rfl)) (hJ33_34 (gb276,gb277) _ ⟨hHeld,(by exact BK272.out),(by exact BK273.out),(by exact BK274.out),(by exact BK275.out),(by exact BK276.out),(by exact BK277.out),GW276.out,GE276.out,NB272_276.out,NB276_272.out,NB273_276.out,NB276_273.out,NB274_276.out,NB276_274.out,NB275_276.out,NB276_275.out,NB277_276.out,NB276_277.out,GW277.out,GE277.out,NB272_277.out,NB277_272.out,NB273_277.out,NB277_273.out,NB274_277.out,NB277_274.out,NB275_277.out,NB277_275.out,(by repeat (first|(with_reducible first|exact HB.out|apply sa|apply sn|apply sd|refine sy ?_ (by assumption))|exact HB.out))⟩)
            · skip
              refine box_step ?hg (N:=14) ?hd (cs:=#[.int .i64 0,.int .i64 0]) (t:=23) ?hr ?_;(case hd => rfl);(case hg => rfl);(case hr => first|(go_simp;done)|(go_simp;rfl))
              intro gb278 hg w19 hbox hb
              have BK278:=am (hbox);have GW278:=am ((by rw [hg];exact (sz (by repeat (first|(with_reducible first|exact HB.out|apply sa|apply sn|apply sd|refine sy ?_ (by assumption))|exact HB.out))) : w.heap.size ≤ gb278));have GE278:=am ((by rw [hg];exact (sz (by repeat (first|(with_reducible first|exact HB.out|apply sa|apply sn|apply sd|refine sy ?_ (by assumption))|exact HB.out))) : w.heap.size ≤ gb278));replace HB:=am (ss (by repeat (first|(with_reducible first|exact HB.out|apply sa|apply sn|apply sd|refine sy ?_ (by assumption))|exact HB.out)) hb);have NB272_278:=nb (by exact BK272.out) hg;have NB278_272:=ng (by exact BK272.out) hg;replace BK272:=am (bw (by exact BK272.out) hb);have NB273_278:=nb (by exact BK273.out) hg;have NB278_273:=ng (by exact BK273.out) hg;replace BK273:=am (bw (by exact BK273.out) hb);have NB274_278:=nb (by exact BK274.out) hg;have NB278_274:=ng (by exact BK274.out) hg;replace BK274:=am (bw (by exact BK274.out) hb);have NB275_278:=nb (by exact BK275.out) hg;have NB278_275:=ng (by exact BK275.out) hg;replace BK275:=am (bw (by exact BK275.out) hb);have NB276_278:=nb (by exact BK276.out) hg;have NB278_276:=ng (by exact BK276.out) hg;replace BK276:=am (bw (by exact BK276.out) hb);clear hb hbox hg;refine hK.out _ _ ⟨(bc BK272.out 0).trans rfl,(bc BK272.out 1).trans rfl,(bc BK275.out 0).trans rfl,(bc BK275.out 1).trans rfl,(bc BK273.out 0).trans rfl,(bc BK273.out 1).trans rfl,(bc BK274.out 0).trans rfl,(bc BK274.out 1).trans rfl⟩ (fun hHeld => ?_);clear hK K;refine norm_ (a':=?_) ?_ ?_
              rotate_left
              · show Act.put _ (some 14) _ = _
                simp only [Act.put,q1,q2,q3,i64_w,i32_w]
                rfl
              exact norm_ (by first|(simp only [putAll,Act.put,q1,q2,q3];done)|(simp only [putAll,Act.put,q1,q2,q3];rfl)) (hJ33_35 (gb276,gb278) _ ⟨hHeld,(by exact BK272.out),(by exact BK273.out),(by exact BK274.out),(by exact BK275.out),(by exact BK276.out),(by exact BK278.out),GW276.out,GE276.out,NB272_276.out,NB276_272.out,NB273_276.out,NB276_273.out,NB274_276.out,NB276_274.out,NB275_276.out,NB276_275.out,NB278_276.out,NB276_278.out,GW278.out,GE278.out,NB272_278.out,NB278_272.out,NB273_278.out,NB278_273.out,NB274_278.out,NB278_274.out,NB275_278.out,NB278_275.out,(by repeat (first|(with_reducible first|exact HB.out|apply sa|apply sn|apply sd|refine sy ?_ (by assumption))|exact HB.out))⟩)
        · skip
          rintro ⟨gb277,gb278⟩ w19 ⟨hS_,h0_,h1_,h2_,h3_,h4_,h5_,h6_,h7_,h8_,h9_,h10_,h11_,h12_,h13_,h14_,h15_,h16_,h17_,h18_,h19_,h20_,h21_,h22_,h23_,h24_,h25_,h26_,h27_,h28_⟩
          have n0_ : Aside0 (w19.heap[gb272]? = some (.cells #[.int .i64 a0_0,.int .i64 a0_1] 23 (0,0))):=⟨h0_⟩;have n1_ : Aside0 (w19.heap[gb273]? = some (.cells #[.int .i64 a1_0,.int .i64 a1_1] 23 (0,0))):=⟨h1_⟩;have n2_ : Aside0 (w19.heap[gb274]? = some (.cells #[.int .i64 a2_0,.int .i64 a2_1] 23 (0,0))):=⟨h2_⟩;have n3_ : Aside0 (w19.heap[gb275]? = some (.cells #[.int .i64 (wrap64 (2 * (wrap64 (a3)))),.int .i64 (wrap64 (2 * (wrap64 (a4))))] 23 (0,0))):=⟨h3_⟩;have n4_ : Aside0 (w19.heap[gb277]? = some (.cells #[.int .i64 0,.int .i64 0] 23 (0,0))):=⟨h4_⟩;have n5_ : Aside0 (w19.heap[gb278]? = some (.cells #[.int .i64 0,.int .i64 0] 23 (0,0))):=⟨h5_⟩;have n6_ : Aside0 (w.heap.size ≤ gb277):=⟨h6_⟩;have n7_ : Aside0 (w.heap.size ≤ gb277):=⟨h7_⟩;have n8_ : Aside0 (gb272 ≠ gb277):=⟨h8_⟩;have n9_ : Aside0 (gb277 ≠ gb272):=⟨h9_⟩;have n10_ : Aside0 (gb273 ≠ gb277):=⟨h10_⟩;have n11_ : Aside0 (gb277 ≠ gb273):=⟨h11_⟩;have n12_ : Aside0 (gb274 ≠ gb277):=⟨h12_⟩;have n13_ : Aside0 (gb277 ≠ gb274):=⟨h13_⟩;have n14_ : Aside0 (gb275 ≠ gb277):=⟨h14_⟩;have n15_ : Aside0 (gb277 ≠ gb275):=⟨h15_⟩;have n16_ : Aside0 (gb278 ≠ gb277):=⟨h16_⟩;have n17_ : Aside0 (gb277 ≠ gb278):=⟨h17_⟩;have n18_ : Aside0 (w.heap.size ≤ gb278):=⟨h18_⟩;have n19_ : Aside0 (w.heap.size ≤ gb278):=⟨h19_⟩;have n20_ : Aside0 (gb272 ≠ gb278):=⟨h20_⟩;have n21_ : Aside0 (gb278 ≠ gb272):=⟨h21_⟩;have n22_ : Aside0 (gb273 ≠ gb278):=⟨h22_⟩;have n23_ : Aside0 (gb278 ≠ gb273):=⟨h23_⟩;have n24_ : Aside0 (gb274 ≠ gb278):=⟨h24_⟩;have n25_ : Aside0 (gb278 ≠ gb274):=⟨h25_⟩;have n26_ : Aside0 (gb275 ≠ gb278):=⟨h26_⟩;have n27_ : Aside0 (gb278 ≠ gb275):=⟨h27_⟩;have n28_ : Aside0 (Below w.heap.size w w19):=⟨h28_⟩;clear BK272;clear BK273;clear BK274;clear BK275;clear HB;clear h0_ h1_ h2_ h3_ h4_ h5_ h6_ h7_ h8_ h9_ h10_ h11_ h12_ h13_ h14_ h15_ h16_ h17_ h18_ h19_ h20_ h21_ h22_ h23_ h24_ h25_ h26_ h27_ h28_;have BK272:=n0_;have BK273:=n1_;have BK274:=n2_;have BK275:=n3_;have BK277:=n4_;have BK278:=n5_;have GW277:=n6_;have GE277:=n7_;have NB272_277:=n8_;have NB277_272:=n9_;have NB273_277:=n10_;have NB277_273:=n11_;have NB274_277:=n12_;have NB277_274:=n13_;have NB275_277:=n14_;have NB277_275:=n15_;have NB278_277:=n16_;have NB277_278:=n17_;have GW278:=n18_;have GE278:=n19_;have NB272_278:=n20_;have NB278_272:=n21_;have NB273_278:=n22_;have NB278_273:=n23_;have NB274_278:=n24_;have NB278_274:=n25_;have NB275_278:=n26_;have NB278_275:=n27_;have HB:=n28_;clear n0_ n1_ n2_ n3_ n4_ n5_ n6_ n7_ n8_ n9_ n10_ n11_ n12_ n13_ n14_ n15_ n16_ n17_ n18_ n19_ n20_ n21_ n22_ n23_ n24_ n25_ n26_ n27_ n28_;have hHeld : w19.cell? ⟨gb272,0,none⟩ = some (.int .i64 a0_0) ∧ w19.cell? ⟨gb272,1,none⟩ = some (.int .i64 a0_1) ∧ w19.cell? ⟨gb275,0,none⟩ = some (.int .i64 (wrap64 (2 * (wrap64 (a3))))) ∧ w19.cell? ⟨gb275,1,none⟩ = some (.int .i64 (wrap64 (2 * (wrap64 (a4))))) ∧ w19.cell? ⟨gb273,0,none⟩ = some (.int .i64 a1_0) ∧ w19.cell? ⟨gb273,1,none⟩ = some (.int .i64 a1_1) ∧ w19.cell? ⟨gb274,0,none⟩ = some (.int .i64 a2_0) ∧ w19.cell? ⟨gb274,1,none⟩ = some (.int .i64 a2_1):=hS_;refine norm_ (a':=?_) ?_ ?_
          rotate_left
          · simp only [putAll,Act.put,q1,q2,q3]
            rfl
          refine one_ (i:=33) (N:=some 12) #[true,true,true,true,true,true,true,true,true,true,true,true,true,true,true,true,true,true,true,true,true,true,true,true,true,true,true,true,true,true,true,true,true,true,true,true,false,false,false] rfl rfl (one_of HT_.out (by kernel_rfl)) (by decide) (fun K hK => ?_);refine box_step ?hg (N:=12) ?hd (cs:=#[.int .i64 0,.int .i64 0]) (t:=23) ?hr ?_;(case hd => rfl);(case hg => rfl);(case hr => first|(go_simp;done)|(go_simp;rfl))
          intro gb276 hg w20 hbox hb
          have BK276:=am (hbox);have GW276:=am ((by rw [hg];exact (sz (by repeat (first|(with_reducible first|exact HB.out|apply sa|apply sn|apply sd|refine sy ?_ (by assumption))|exact HB.out))) : w.heap.size ≤ gb276));have GE276:=am ((by rw [hg];exact (sz (by repeat (first|(with_reducible first|exact HB.out|apply sa|apply sn|apply sd|refine sy ?_ (by assumption))|exact HB.out))) : w.heap.size ≤ gb276));replace HB:=am (ss (by repeat (first|(with_reducible first|exact HB.out|apply sa|apply sn|apply sd|refine sy ?_ (by assumption))|exact HB.out)) hb);have NB272_276:=nb (by exact BK272.out) hg;have NB276_272:=ng (by exact BK272.out) hg;replace BK272:=am (bw (by exact BK272.out) hb);have NB273_276:=nb (by exact BK273.out) hg;have NB276_273:=ng (by exact BK273.out) hg;replace BK273:=am (bw (by exact BK273.out) hb);have NB274_276:=nb (by exact BK274.out) hg;have NB276_274:=ng (by exact BK274.out) hg;replace BK274:=am (bw (by exact BK274.out) hb);have NB275_276:=nb (by exact BK275.out) hg;have NB276_275:=ng (by exact BK275.out) hg;replace BK275:=am (bw (by exact BK275.out) hb);have NB277_276:=nb (by exact BK277.out) hg;have NB276_277:=ng (by exact BK277.out) hg;replace BK277:=am (bw (by exact BK277.out) hb);have NB278_276:=nb (by exact BK278.out) hg;have NB276_278:=ng (by exact BK278.out) hg;replace BK278:=am (bw (by exact BK278.out) hb);clear hb hbox hg;refine hK.out _ _ ⟨(bc BK272.out 0).trans rfl,(bc BK272.out 1).trans rfl,(bc BK275.out 0).trans rfl,(bc BK275.out 1).trans rfl,(bc BK273.out 0).trans rfl,(bc BK273.out 1).trans rfl,(bc BK274.out 0).trans rfl,(bc BK274.out 1).trans rfl⟩ (fun hHeld => ?_);clear hK K;refine norm_ (a':=?_) ?_ ?_
          rotate_left
          · show Act.put _ (some 12) _ = _
            simp only [Act.put,q1,q2,q3,i64_w,i32_w]
            rfl
          exact norm_ (by first|(simp only [putAll,Act.put,q1,q2,q3];done)|(simp only [putAll,Act.put,q1,q2,q3];rfl)) (hJ33_34_35 (gb276,gb277,gb278) _ ⟨hHeld,(by exact BK272.out),(by exact BK273.out),(by exact BK274.out),(by exact BK275.out),(by exact BK276.out),(by exact BK277.out),(by exact BK278.out),GW276.out,GE276.out,NB272_276.out,NB276_272.out,NB273_276.out,NB276_273.out,NB274_276.out,NB276_274.out,NB275_276.out,NB276_275.out,NB277_276.out,NB276_277.out,NB278_276.out,NB276_278.out,GW277.out,GE277.out,NB272_277.out,NB277_272.out,NB273_277.out,NB277_273.out,NB274_277.out,NB277_274.out,NB275_277.out,NB277_275.out,NB278_277.out,NB277_278.out,GW278.out,GE278.out,NB272_278.out,NB278_272.out,NB273_278.out,NB278_273.out,NB274_278.out,NB278_274.out,NB275_278.out,NB278_275.out,(by repeat (first|(with_reducible first|exact HB.out|apply sa|apply sn|apply sd|refine sy ?_ (by assumption))|exact HB.out))⟩)
      · skip
        rintro ⟨gb276,gb278⟩ w19 ⟨hS_,h0_,h1_,h2_,h3_,h4_,h5_,h6_,h7_,h8_,h9_,h10_,h11_,h12_,h13_,h14_,h15_,h16_,h17_,h18_,h19_,h20_,h21_,h22_,h23_,h24_,h25_,h26_,h27_,h28_⟩
        have n0_ : Aside0 (w19.heap[gb272]? = some (.cells #[.int .i64 a0_0,.int .i64 a0_1] 23 (0,0))):=⟨h0_⟩;have n1_ : Aside0 (w19.heap[gb273]? = some (.cells #[.int .i64 a1_0,.int .i64 a1_1] 23 (0,0))):=⟨h1_⟩;have n2_ : Aside0 (w19.heap[gb274]? = some (.cells #[.int .i64 a2_0,.int .i64 a2_1] 23 (0,0))):=⟨h2_⟩;have n3_ : Aside0 (w19.heap[gb275]? = some (.cells #[.int .i64 (wrap64 (2 * (wrap64 (a3)))),.int .i64 (wrap64 (2 * (wrap64 (a4))))] 23 (0,0))):=⟨h3_⟩;have n4_ : Aside0 (w19.heap[gb276]? = some (.cells #[.int .i64 0,.int .i64 0] 23 (0,0))):=⟨h4_⟩;have n5_ : Aside0 (w19.heap[gb278]? = some (.cells #[.int .i64 0,.int .i64 0] 23 (0,0))):=⟨h5_⟩;have n6_ : Aside0 (w.heap.size ≤ gb276):=⟨h6_⟩;have n7_ : Aside0 (w.heap.size ≤ gb276):=⟨h7_⟩;have n8_ : Aside0 (gb272 ≠ gb276):=⟨h8_⟩;have n9_ : Aside0 (gb276 ≠ gb272):=⟨h9_⟩;have n10_ : Aside0 (gb273 ≠ gb276):=⟨h10_⟩;have n11_ : Aside0 (gb276 ≠ gb273):=⟨h11_⟩;have n12_ : Aside0 (gb274 ≠ gb276):=⟨h12_⟩;have n13_ : Aside0 (gb276 ≠ gb274):=⟨h13_⟩;have n14_ : Aside0 (gb275 ≠ gb276):=⟨h14_⟩;have n15_ : Aside0 (gb276 ≠ gb275):=⟨h15_⟩;have n16_ : Aside0 (gb278 ≠ gb276):=⟨h16_⟩;have n17_ : Aside0 (gb276 ≠ gb278):=⟨h17_⟩;have n18_ : Aside0 (w.heap.size ≤ gb278):=⟨h18_⟩;have n19_ : Aside0 (w.heap.size ≤ gb278):=⟨h19_⟩;have n20_ : Aside0 (gb272 ≠ gb278):=⟨h20_⟩;have n21_ : Aside0 (gb278 ≠ gb272):=⟨h21_⟩;have n22_ : Aside0 (gb273 ≠ gb278):=⟨h22_⟩;have n23_ : Aside0 (gb278 ≠ gb273):=⟨h23_⟩;have n24_ : Aside0 (gb274 ≠ gb278):=⟨h24_⟩;have n25_ : Aside0 (gb278 ≠ gb274):=⟨h25_⟩;have n26_ : Aside0 (gb275 ≠ gb278):=⟨h26_⟩;have n27_ : Aside0 (gb278 ≠ gb275):=⟨h27_⟩;have n28_ : Aside0 (Below w.heap.size w w19):=⟨h28_⟩;clear BK272;clear BK273;clear BK274;clear BK275;clear HB;clear h0_ h1_ h2_ h3_ h4_ h5_ h6_ h7_ h8_ h9_ h10_ h11_ h12_ h13_ h14_ h15_ h16_ h17_ h18_ h19_ h20_ h21_ h22_ h23_ h24_ h25_ h26_ h27_ h28_;have BK272:=n0_;have BK273:=n1_;have BK274:=n2_;have BK275:=n3_;have BK276:=n4_;have BK278:=n5_;have GW276:=n6_;have GE276:=n7_;have NB272_276:=n8_;have NB276_272:=n9_;have NB273_276:=n10_;have NB276_273:=n11_;have NB274_276:=n12_;have NB276_274:=n13_;have NB275_276:=n14_;have NB276_275:=n15_;have NB278_276:=n16_;have NB276_278:=n17_;have GW278:=n18_;have GE278:=n19_;have NB272_278:=n20_;have NB278_272:=n21_;have NB273_278:=n22_;have NB278_273:=n23_;have NB274_278:=n24_;have NB278_274:=n25_;have NB275_278:=n26_;have NB278_275:=n27_;have HB:=n28_;clear n0_ n1_ n2_ n3_ n4_ n5_ n6_ n7_ n8_ n9_ n10_ n11_ n12_ n13_ n14_ n15_ n16_ n17_ n18_ n19_ n20_ n21_ n22_ n23_ n24_ n25_ n26_ n27_ n28_;have hHeld : w19.cell? ⟨gb272,0,none⟩ = some (.int .i64 a0_0) ∧ w19.cell? ⟨gb272,1,none⟩ = some (.int .i64 a0_1) ∧ w19.cell? ⟨gb275,0,none⟩ = some (.int .i64 (wrap64 (2 * (wrap64 (a3))))) ∧ w19.cell? ⟨gb275,1,none⟩ = some (.int .i64 (wrap64 (2 * (wrap64 (a4))))) ∧ w19.cell? ⟨gb273,0,none⟩ = some (.int .i64 a1_0) ∧ w19.cell? ⟨gb273,1,none⟩ = some (.int .i64 a1_1) ∧ w19.cell? ⟨gb274,0,none⟩ = some (.int .i64 a2_0) ∧ w19.cell? ⟨gb274,1,none⟩ = some (.int .i64 a2_1):=hS_;refine norm_ (a':=?_) ?_ ?_
        rotate_left
        · simp only [putAll,Act.put,q1,q2,q3]
          rfl
        refine one_ (i:=34) (N:=some 13) #[true,true,true,true,true,true,true,true,true,true,true,true,true,true,true,true,true,true,true,true,true,true,true,true,true,true,true,true,true,true,true,true,true,true,true,true,false,false,false] rfl rfl (one_of HT_.out (by kernel_rfl)) (by decide) (fun K hK => ?_);refine box_step ?hg (N:=13) ?hd (cs:=#[.int .i64 0,.int .i64 0]) (t:=23) ?hr ?_;(case hd => rfl);(case hg => rfl);(case hr => first|(go_simp;done)|(go_simp;rfl))
        intro gb277 hg w20 hbox hb
        have BK277:=am (hbox);have GW277:=am ((by rw [hg];exact (sz (by repeat (first|(with_reducible first|exact HB.out|apply sa|apply sn|apply sd|refine sy ?_ (by assumption))|exact HB.out))) : w.heap.size ≤ gb277));have GE277:=am ((by rw [hg];exact (sz (by repeat (first|(with_reducible first|exact HB.out|apply sa|apply sn|apply sd|refine sy ?_ (by assumption))|exact HB.out))) : w.heap.size ≤ gb277));replace HB:=am (ss (by repeat (first|(with_reducible first|exact HB.out|apply sa|apply sn|apply sd|refine sy ?_ (by assumption))|exact HB.out)) hb);have NB272_277:=nb (by exact BK272.out) hg;have NB277_272:=ng (by exact BK272.out) hg;replace BK272:=am (bw (by exact BK272.out) hb);have NB273_277:=nb (by exact BK273.out) hg;have NB277_273:=ng (by exact BK273.out) hg;replace BK273:=am (bw (by exact BK273.out) hb);have NB274_277:=nb (by exact BK274.out) hg;have NB277_274:=ng (by exact BK274.out) hg;replace BK274:=am (bw (by exact BK274.out) hb);have NB275_277:=nb (by exact BK275.out) hg;have NB277_275:=ng (by exact BK275.out) hg;replace BK275:=am (bw (by exact BK275.out) hb);have NB276_277:=nb (by exact BK276.out) hg;have NB277_276:=ng (by exact BK276.out) hg;replace BK276:=am (bw (by exact BK276.out) hb);have NB278_277:=nb (by exact BK278.out) hg;have NB277_278:=ng (by exact BK278.out) hg;replace BK278:=am (bw (by exact BK278.out) hb);clear hb hbox hg;refine hK.out _ _ ⟨(bc BK272.out 0).trans rfl,(bc BK272.out 1).trans rfl,(bc BK275.out 0).trans rfl,(bc BK275.out 1).trans rfl,(bc BK273.out 0).trans rfl,(bc BK273.out 1).trans rfl,(bc BK274.out 0).trans rfl,(bc BK274.out 1).trans rfl⟩ (fun hHeld => ?_);clear hK K;refine norm_ (a':=?_) ?_ ?_
        rotate_left
        · show Act.put _ (some 13) _ = _
          simp only [Act.put,q1,q2,q3,i64_w,i32_w]
          rfl
        exact norm_ (by first|(simp only [putAll,Act.put,q1,q2,q3];done)|(simp only [putAll,Act.put,q1,q2,q3];rfl)) (hJ33_34_35 (gb276,gb277,gb278) _ ⟨hHeld,(by exact BK272.out),(by exact BK273.out),(by exact BK274.out),(by exact BK275.out),(by exact BK276.out),(by exact BK277.out),(by exact BK278.out),GW276.out,GE276.out,NB272_276.out,NB276_272.out,NB273_276.out,NB276_273.out,NB274_276.out,NB276_274.out,NB275_276.out,NB276_275.out,NB277_276.out,NB276_277.out,NB278_276.out,NB276_278.out,GW277.out,GE277.out,NB272_277.out,NB277_272.out,NB273_277.out,NB277_273.out,NB274_277.out,NB277_274.out,NB275_277.out,NB277_275.out,NB278_277.out,NB277_278.out,GW278.out,GE278.out,NB272_278.out,NB278_272.out,NB273_278.out,NB278_273.out,NB274_278.out,NB278_274.out,NB275_278.out,NB278_275.out,(by repeat (first|(with_reducible first|exact HB.out|apply sa|apply sn|apply sd|refine sy ?_ (by assumption))|exact HB.out))⟩)
    · skip
      rintro ⟨gb276,gb277⟩ w19 ⟨hS_,h0_,h1_,h2_,h3_,h4_,h5_,h6_,h7_,h8_,h9_,h10_,h11_,h12_,h13_,h14_,h15_,h16_,h17_,h18_,h19_,h20_,h21_,h22_,h23_,h24_,h25_,h26_,h27_,h28_⟩
      have n0_ : Aside0 (w19.heap[gb272]? = some (.cells #[.int .i64 a0_0,.int .i64 a0_1] 23 (0,0))):=⟨h0_⟩;have n1_ : Aside0 (w19.heap[gb273]? = some (.cells #[.int .i64 a1_0,.int .i64 a1_1] 23 (0,0))):=⟨h1_⟩;have n2_ : Aside0 (w19.heap[gb274]? = some (.cells #[.int .i64 a2_0,.int .i64 a2_1] 23 (0,0))):=⟨h2_⟩;have n3_ : Aside0 (w19.heap[gb275]? = some (.cells #[.int .i64 (wrap64 (2 * (wrap64 (a3)))),.int .i64 (wrap64 (2 * (wrap64 (a4))))] 23 (0,0))):=⟨h3_⟩;have n4_ : Aside0 (w19.heap[gb276]? = some (.cells #[.int .i64 0,.int .i64 0] 23 (0,0))):=⟨h4_⟩;have n5_ : Aside0 (w19.heap[gb277]? = some (.cells #[.int .i64 0,.int .i64 0] 23 (0,0))):=⟨h5_⟩;have n6_ : Aside0 (w.heap.size ≤ gb276):=⟨h6_⟩;have n7_ : Aside0 (w.heap.size ≤ gb276):=⟨h7_⟩;have n8_ : Aside0 (gb272 ≠ gb276):=⟨h8_⟩;have n9_ : Aside0 (gb276 ≠ gb272):=⟨h9_⟩;have n10_ : Aside0 (gb273 ≠ gb276):=⟨h10_⟩;have n11_ : Aside0 (gb276 ≠ gb273):=⟨h11_⟩;have n12_ : Aside0 (gb274 ≠ gb276):=⟨h12_⟩;have n13_ : Aside0 (gb276 ≠ gb274):=⟨h13_⟩;have n14_ : Aside0 (gb275 ≠ gb276):=⟨h14_⟩;have n15_ : Aside0 (gb276 ≠ gb275):=⟨h15_⟩;have n16_ : Aside0 (gb277 ≠ gb276):=⟨h16_⟩;have n17_ : Aside0 (gb276 ≠ gb277):=⟨h17_⟩;have n18_ : Aside0 (w.heap.size ≤ gb277):=⟨h18_⟩;have n19_ : Aside0 (w.heap.size ≤ gb277):=⟨h19_⟩;have n20_ : Aside0 (gb272 ≠ gb277):=⟨h20_⟩;have n21_ : Aside0 (gb277 ≠ gb272):=⟨h21_⟩;have n22_ : Aside0 (gb273 ≠ gb277):=⟨h22_⟩;have n23_ : Aside0 (gb277 ≠ gb273):=⟨h23_⟩;have n24_ : Aside0 (gb274 ≠ gb277):=⟨h24_⟩;have n25_ : Aside0 (gb277 ≠ gb274):=⟨h25_⟩;have n26_ : Aside0 (gb275 ≠ gb277):=⟨h26_⟩;have n27_ : Aside0 (gb277 ≠ gb275):=⟨h27_⟩;have n28_ : Aside0 (Below w.heap.size w w19):=⟨h28_⟩;clear BK272;clear BK273;clear BK274;clear BK275;clear HB;clear h0_ h1_ h2_ h3_ h4_ h5_ h6_ h7_ h8_ h9_ h10_ h11_ h12_ h13_ h14_ h15_ h16_ h17_ h18_ h19_ h20_ h21_ h22_ h23_ h24_ h25_ h26_ h27_ h28_;have BK272:=n0_;have BK273:=n1_;have BK274:=n2_;have BK275:=n3_;have BK276:=n4_;have BK277:=n5_;have GW276:=n6_;have GE276:=n7_;have NB272_276:=n8_;have NB276_272:=n9_;have NB273_276:=n10_;have NB276_273:=n11_;have NB274_276:=n12_;have NB276_274:=n13_;have NB275_276:=n14_;have NB276_275:=n15_;have NB277_276:=n16_;have NB276_277:=n17_;have GW277:=n18_;have GE277:=n19_;have NB272_277:=n20_;have NB277_272:=n21_;have NB273_277:=n22_;have NB277_273:=n23_;have NB274_277:=n24_;have NB277_274:=n25_;have NB275_277:=n26_;have NB277_275:=n27_;have HB:=n28_;clear n0_ n1_ n2_ n3_ n4_ n5_ n6_ n7_ n8_ n9_ n10_ n11_ n12_ n13_ n14_ n15_ n16_ n17_ n18_ n19_ n20_ n21_ n22_ n23_ n24_ n25_ n26_ n27_ n28_;have hHeld : w19.cell? ⟨gb272,0,none⟩ = some (.int .i64 a0_0) ∧ w19.cell? ⟨gb272,1,none⟩ = some (.int .i64 a0_1) ∧ w19.cell? ⟨gb275,0,none⟩ = some (.int .i64 (wrap64 (2 * (wrap64 (a3))))) ∧ w19.cell? ⟨gb275,1,none⟩ = some (.int .i64 (wrap64 (2 * (wrap64 (a4))))) ∧ w19.cell? ⟨gb273,0,none⟩ = some (.int .i64 a1_0) ∧ w19.cell? ⟨gb273,1,none⟩ = some (.int .i64 a1_1) ∧ w19.cell? ⟨gb274,0,none⟩ = some (.int .i64 a2_0) ∧ w19.cell? ⟨gb274,1,none⟩ = some (.int .i64 a2_1):=hS_;refine norm_ (a':=?_) ?_ ?_
      rotate_left
      · simp only [putAll,Act.put,q1,q2,q3]
        rfl
      refine one_ (i:=35) (N:=some 14) #[true,true,true,true,true,true,true,true,true,true,true,true,true,true,true,true,true,true,true,true,true,true,true,true,true,true,true,true,true,true,true,true,true,true,true,true,false,false,false] rfl rfl (one_of HT_.out (by kernel_rfl)) (by decide) (fun K hK => ?_);refine box_step ?hg (N:=14) ?hd (cs:=#[.int .i64 0,.int .i64 0]) (t:=23) ?hr ?_;(case hd => rfl);(case hg => rfl);(case hr => first|(go_simp;done)|(go_simp;rfl))
      intro gb278 hg w20 hbox hb
      have BK278:=am (hbox);have GW278:=am ((by rw [hg];exact (sz (by repeat (first|(with_reducible first|exact HB.out|apply sa|apply sn|apply sd|refine sy ?_ (by assumption))|exact HB.out))) : w.heap.size ≤ gb278));have GE278:=am ((by rw [hg];exact (sz (by repeat (first|(with_reducible first|exact HB.out|apply sa|apply sn|apply sd|refine sy ?_ (by assumption))|exact HB.out))) : w.heap.size ≤ gb278));replace HB:=am (ss (by repeat (first|(with_reducible first|exact HB.out|apply sa|apply sn|apply sd|refine sy ?_ (by assumption))|exact HB.out)) hb);have NB272_278:=nb (by exact BK272.out) hg;have NB278_272:=ng (by exact BK272.out) hg;replace BK272:=am (bw (by exact BK272.out) hb);have NB273_278:=nb (by exact BK273.out) hg;have NB278_273:=ng (by exact BK273.out) hg;replace BK273:=am (bw (by exact BK273.out) hb);have NB274_278:=nb (by exact BK274.out) hg;have NB278_274:=ng (by exact BK274.out) hg;replace BK274:=am (bw (by exact BK274.out) hb);have NB275_278:=nb (by exact BK275.out) hg;have NB278_275:=ng (by exact BK275.out) hg;replace BK275:=am (bw (by exact BK275.out) hb);have NB276_278:=nb (by exact BK276.out) hg;have NB278_276:=ng (by exact BK276.out) hg;replace BK276:=am (bw (by exact BK276.out) hb);have NB277_278:=nb (by exact BK277.out) hg;have NB278_277:=ng (by exact BK277.out) hg;replace BK277:=am (bw (by exact BK277.out) hb);clear hb hbox hg;refine hK.out _ _ ⟨(bc BK272.out 0).trans rfl,(bc BK272.out 1).trans rfl,(bc BK275.out 0).trans rfl,(bc BK275.out 1).trans rfl,(bc BK273.out 0).trans rfl,(bc BK273.out 1).trans rfl,(bc BK274.out 0).trans rfl,(bc BK274.out 1).trans rfl⟩ (fun hHeld => ?_);clear hK K;refine norm_ (a':=?_) ?_ ?_
      rotate_left
      · show Act.put _ (some 14) _ = _
        simp only [Act.put,q1,q2,q3,i64_w,i32_w]
        rfl
      exact norm_ (by first|(simp only [putAll,Act.put,q1,q2,q3];done)|(simp only [putAll,Act.put,q1,q2,q3];rfl)) (hJ33_34_35 (gb276,gb277,gb278) _ ⟨hHeld,(by exact BK272.out),(by exact BK273.out),(by exact BK274.out),(by exact BK275.out),(by exact BK276.out),(by exact BK277.out),(by exact BK278.out),GW276.out,GE276.out,NB272_276.out,NB276_272.out,NB273_276.out,NB276_273.out,NB274_276.out,NB276_274.out,NB275_276.out,NB276_275.out,NB277_276.out,NB276_277.out,NB278_276.out,NB276_278.out,GW277.out,GE277.out,NB272_277.out,NB277_272.out,NB273_277.out,NB277_273.out,NB274_277.out,NB277_274.out,NB275_277.out,NB277_275.out,NB278_277.out,NB277_278.out,GW278.out,GE278.out,NB272_278.out,NB278_272.out,NB273_278.out,NB278_273.out,NB274_278.out,NB278_274.out,NB275_278.out,NB278_275.out,(by repeat (first|(with_reducible first|exact HB.out|apply sa|apply sn|apply sd|refine sy ?_ (by assumption))|exact HB.out))⟩)
  rintro ⟨gb276,gb277,gb278⟩ w20 ⟨hS_,h0_,h1_,h2_,h3_,h4_,h5_,h6_,h7_,h8_,h9_,h10_,h11_,h12_,h13_,h14_,h15_,h16_,h17_,h18_,h19_,h20_,h21_,h22_,h23_,h24_,h25_,h26_,h27_,h28_,h29_,h30_,h31_,h32_,h33_,h34_,h35_,h36_,h37_,h38_,h39_,h40_,h41_,h42_,h43_⟩
  have n0_ : Aside0 (w20.heap[gb272]? = some (.cells #[.int .i64 a0_0,.int .i64 a0_1] 23 (0,0))):=⟨h0_⟩;have n1_ : Aside0 (w20.heap[gb273]? = some (.cells #[.int .i64 a1_0,.int .i64 a1_1] 23 (0,0))):=⟨h1_⟩;have n2_ : Aside0 (w20.heap[gb274]? = some (.cells #[.int .i64 a2_0,.int .i64 a2_1] 23 (0,0))):=⟨h2_⟩;have n3_ : Aside0 (w20.heap[gb275]? = some (.cells #[.int .i64 (wrap64 (2 * (wrap64 (a3)))),.int .i64 (wrap64 (2 * (wrap64 (a4))))] 23 (0,0))):=⟨h3_⟩;have n4_ : Aside0 (w20.heap[gb276]? = some (.cells #[.int .i64 0,.int .i64 0] 23 (0,0))):=⟨h4_⟩;have n5_ : Aside0 (w20.heap[gb277]? = some (.cells #[.int .i64 0,.int .i64 0] 23 (0,0))):=⟨h5_⟩;have n6_ : Aside0 (w20.heap[gb278]? = some (.cells #[.int .i64 0,.int .i64 0] 23 (0,0))):=⟨h6_⟩;have n7_ : Aside0 (w.heap.size ≤ gb276):=⟨h7_⟩;have n8_ : Aside0 (w.heap.size ≤ gb276):=⟨h8_⟩;have n9_ : Aside0 (gb272 ≠ gb276):=⟨h9_⟩;have n10_ : Aside0 (gb276 ≠ gb272):=⟨h10_⟩;have n11_ : Aside0 (gb273 ≠ gb276):=⟨h11_⟩;have n12_ : Aside0 (gb276 ≠ gb273):=⟨h12_⟩;have n13_ : Aside0 (gb274 ≠ gb276):=⟨h13_⟩;have n14_ : Aside0 (gb276 ≠ gb274):=⟨h14_⟩;have n15_ : Aside0 (gb275 ≠ gb276):=⟨h15_⟩;have n16_ : Aside0 (gb276 ≠ gb275):=⟨h16_⟩;have n17_ : Aside0 (gb277 ≠ gb276):=⟨h17_⟩;have n18_ : Aside0 (gb276 ≠ gb277):=⟨h18_⟩;have n19_ : Aside0 (gb278 ≠ gb276):=⟨h19_⟩;have n20_ : Aside0 (gb276 ≠ gb278):=⟨h20_⟩;have n21_ : Aside0 (w.heap.size ≤ gb277):=⟨h21_⟩;have n22_ : Aside0 (w.heap.size ≤ gb277):=⟨h22_⟩;have n23_ : Aside0 (gb272 ≠ gb277):=⟨h23_⟩;have n24_ : Aside0 (gb277 ≠ gb272):=⟨h24_⟩;have n25_ : Aside0 (gb273 ≠ gb277):=⟨h25_⟩;have n26_ : Aside0 (gb277 ≠ gb273):=⟨h26_⟩;have n27_ : Aside0 (gb274 ≠ gb277):=⟨h27_⟩;have n28_ : Aside0 (gb277 ≠ gb274):=⟨h28_⟩;have n29_ : Aside0 (gb275 ≠ gb277):=⟨h29_⟩;have n30_ : Aside0 (gb277 ≠ gb275):=⟨h30_⟩;have n31_ : Aside0 (gb278 ≠ gb277):=⟨h31_⟩;have n32_ : Aside0 (gb277 ≠ gb278):=⟨h32_⟩;have n33_ : Aside0 (w.heap.size ≤ gb278):=⟨h33_⟩;have n34_ : Aside0 (w.heap.size ≤ gb278):=⟨h34_⟩;have n35_ : Aside0 (gb272 ≠ gb278):=⟨h35_⟩;have n36_ : Aside0 (gb278 ≠ gb272):=⟨h36_⟩;have n37_ : Aside0 (gb273 ≠ gb278):=⟨h37_⟩;have n38_ : Aside0 (gb278 ≠ gb273):=⟨h38_⟩;have n39_ : Aside0 (gb274 ≠ gb278):=⟨h39_⟩;have n40_ : Aside0 (gb278 ≠ gb274):=⟨h40_⟩;have n41_ : Aside0 (gb275 ≠ gb278):=⟨h41_⟩;have n42_ : Aside0 (gb278 ≠ gb275):=⟨h42_⟩;have n43_ : Aside0 (Below w.heap.size w w20):=⟨h43_⟩;clear BK272;clear BK273;clear BK274;clear BK275;clear HB;clear h0_ h1_ h2_ h3_ h4_ h5_ h6_ h7_ h8_ h9_ h10_ h11_ h12_ h13_ h14_ h15_ h16_ h17_ h18_ h19_ h20_ h21_ h22_ h23_ h24_ h25_ h26_ h27_ h28_ h29_ h30_ h31_ h32_ h33_ h34_ h35_ h36_ h37_ h38_ h39_ h40_ h41_ h42_ h43_;have BK272:=n0_;have BK273:=n1_;have BK274:=n2_;have BK275:=n3_;have BK276:=n4_;have BK277:=n5_;have BK278:=n6_;have GW276:=n7_;have GE276:=n8_;have NB272_276:=n9_;have NB276_272:=n10_;have NB273_276:=n11_;have NB276_273:=n12_;have NB274_276:=n13_;have NB276_274:=n14_;have NB275_276:=n15_;have NB276_275:=n16_;have NB277_276:=n17_;have NB276_277:=n18_;have NB278_276:=n19_;have NB276_278:=n20_;have GW277:=n21_;have GE277:=n22_;have NB272_277:=n23_;have NB277_272:=n24_;have NB273_277:=n25_;have NB277_273:=n26_;have NB274_277:=n27_;have NB277_274:=n28_;have NB275_277:=n29_;have NB277_275:=n30_;have NB278_277:=n31_;have NB277_278:=n32_;have GW278:=n33_;have GE278:=n34_;have NB272_278:=n35_;have NB278_272:=n36_;have NB273_278:=n37_;have NB278_273:=n38_;have NB274_278:=n39_;have NB278_274:=n40_;have NB275_278:=n41_;have NB278_275:=n42_;have HB:=n43_;clear n0_ n1_ n2_ n3_ n4_ n5_ n6_ n7_ n8_ n9_ n10_ n11_ n12_ n13_ n14_ n15_ n16_ n17_ n18_ n19_ n20_ n21_ n22_ n23_ n24_ n25_ n26_ n27_ n28_ n29_ n30_ n31_ n32_ n33_ n34_ n35_ n36_ n37_ n38_ n39_ n40_ n41_ n42_ n43_;have hHeld : w20.cell? ⟨gb272,0,none⟩ = some (.int .i64 a0_0) ∧ w20.cell? ⟨gb272,1,none⟩ = some (.int .i64 a0_1) ∧ w20.cell? ⟨gb275,0,none⟩ = some (.int .i64 (wrap64 (2 * (wrap64 (a3))))) ∧ w20.cell? ⟨gb275,1,none⟩ = some (.int .i64 (wrap64 (2 * (wrap64 (a4))))) ∧ w20.cell? ⟨gb273,0,none⟩ = some (.int .i64 a1_0) ∧ w20.cell? ⟨gb273,1,none⟩ = some (.int .i64 a1_1) ∧ w20.cell? ⟨gb274,0,none⟩ = some (.int .i64 a2_0) ∧ w20.cell? ⟨gb274,1,none⟩ = some (.int .i64 a2_1):=hS_;refine norm_ (a':=?_) ?_ ?_
  rotate_left
  · simp only [putAll,Act.put,q1,q2,q3]
    rfl
  refine one_ (i:=36) (N:=none) #[true,true,true,true,true,true,true,true,true,true,true,true,true,true,true,true,true,true,true,true,true,true,true,true,true,true,true,true,true,true,true,true,true,true,true,true,true,false,false] rfl rfl (one_of HT_.out (by kernel_rfl)) (by decide) (fun K hK => ?_);have hs21 : w20.cell? ⟨gb276,0,none⟩ = some (.int .i64 0):=(bc BK276.out 0).trans rfl;have hfs21:=bz BK276.out 0;have hns21_0:=NB272_276.out;have hns21_1:=NB273_276.out;have hns21_2:=NB274_276.out;have hns21_3:=NB275_276.out;have hns21_5:=NB277_276.out;have hns21_6:=NB278_276.out;have hms21_0:=NB276_272.out;have hms21_1:=NB276_273.out;have hms21_2:=NB276_274.out;have hms21_3:=NB276_275.out;have hms21_5:=NB276_277.out;have hms21_6:=NB276_278.out;have hs22 : w20.cell? ⟨gb276,1,none⟩ = some (.int .i64 0):=(bc BK276.out 1).trans rfl;have hfs22:=bz BK276.out 1;have hns22_0:=NB272_276.out;have hns22_1:=NB273_276.out;have hns22_2:=NB274_276.out;have hns22_3:=NB275_276.out;have hns22_5:=NB277_276.out;have hns22_6:=NB278_276.out;have hms22_0:=NB276_272.out;have hms22_1:=NB276_273.out;have hms22_2:=NB276_274.out;have hms22_3:=NB276_275.out;have hms22_5:=NB276_277.out;have hms22_6:=NB276_278.out;refine skip_ (w1:=?_) (by rfl) rfl ?_ ?_
  rotate_left
  · go_simp
    rfl
  refine hK.out _ _ ⟨((cell_far (p:=⟨gb276,_,none⟩) NB272_276.out _).trans (((cell_far (p:=⟨gb276,_,none⟩) NB272_276.out _).trans (hHeld.1)))),((cell_far (p:=⟨gb276,_,none⟩) NB272_276.out _).trans (((cell_far (p:=⟨gb276,_,none⟩) NB272_276.out _).trans (hHeld.2.1)))),((cell_far (p:=⟨gb276,_,none⟩) NB275_276.out _).trans (((cell_far (p:=⟨gb276,_,none⟩) NB275_276.out _).trans (hHeld.2.2.1)))),((cell_far (p:=⟨gb276,_,none⟩) NB275_276.out _).trans (((cell_far (p:=⟨gb276,_,none⟩) NB275_276.out _).trans (hHeld.2.2.2.1)))),((cell_far (p:=⟨gb276,_,none⟩) NB273_276.out _).trans (((cell_far (p:=⟨gb276,_,none⟩) NB273_276.out _).trans (hHeld.2.2.2.2.1)))),((cell_far (p:=⟨gb276,_,none⟩) NB273_276.out _).trans (((cell_far (p:=⟨gb276,_,none⟩) NB273_276.out _).trans (hHeld.2.2.2.2.2.1)))),((cell_far (p:=⟨gb276,_,none⟩) NB274_276.out _).trans (((cell_far (p:=⟨gb276,_,none⟩) NB274_276.out _).trans (hHeld.2.2.2.2.2.2.1)))),((cell_far (p:=⟨gb276,_,none⟩) NB274_276.out _).trans (((cell_far (p:=⟨gb276,_,none⟩) NB274_276.out _).trans (hHeld.2.2.2.2.2.2.2))))⟩ (fun hHeld => ?_);clear hK K;refine one_ (i:=37) (N:=none) #[true,true,true,true,true,true,true,true,true,true,true,true,true,true,true,true,true,true,true,true,true,true,true,true,true,true,true,true,true,true,true,true,true,true,true,true,true,true,false] rfl rfl (one_of HT_.out (by kernel_rfl)) (by decide) (fun K hK => ?_);have hs23 : w20.cell? ⟨gb277,0,none⟩ = some (.int .i64 0):=(bc BK277.out 0).trans rfl;have hfs23:=bz BK277.out 0;have hns23_0:=NB272_277.out;have hns23_1:=NB273_277.out;have hns23_2:=NB274_277.out;have hns23_3:=NB275_277.out;have hns23_4:=NB276_277.out;have hns23_6:=NB278_277.out;have hms23_0:=NB277_272.out;have hms23_1:=NB277_273.out;have hms23_2:=NB277_274.out;have hms23_3:=NB277_275.out;have hms23_4:=NB277_276.out;have hms23_6:=NB277_278.out;have hs24 : w20.cell? ⟨gb277,1,none⟩ = some (.int .i64 0):=(bc BK277.out 1).trans rfl;have hfs24:=bz BK277.out 1;have hns24_0:=NB272_277.out;have hns24_1:=NB273_277.out;have hns24_2:=NB274_277.out;have hns24_3:=NB275_277.out;have hns24_4:=NB276_277.out;have hns24_6:=NB278_277.out;have hms24_0:=NB277_272.out;have hms24_1:=NB277_273.out;have hms24_2:=NB277_274.out;have hms24_3:=NB277_275.out;have hms24_4:=NB277_276.out;have hms24_6:=NB277_278.out;refine skip_ (w1:=?_) (by rfl) rfl ?_ ?_
  rotate_left
  · go_simp
    rfl
  refine hK.out _ _ ⟨((cell_far (p:=⟨gb277,_,none⟩) NB272_277.out _).trans (((cell_far (p:=⟨gb277,_,none⟩) NB272_277.out _).trans (hHeld.1)))),((cell_far (p:=⟨gb277,_,none⟩) NB272_277.out _).trans (((cell_far (p:=⟨gb277,_,none⟩) NB272_277.out _).trans (hHeld.2.1)))),((cell_far (p:=⟨gb277,_,none⟩) NB275_277.out _).trans (((cell_far (p:=⟨gb277,_,none⟩) NB275_277.out _).trans (hHeld.2.2.1)))),((cell_far (p:=⟨gb277,_,none⟩) NB275_277.out _).trans (((cell_far (p:=⟨gb277,_,none⟩) NB275_277.out _).trans (hHeld.2.2.2.1)))),((cell_far (p:=⟨gb277,_,none⟩) NB273_277.out _).trans (((cell_far (p:=⟨gb277,_,none⟩) NB273_277.out _).trans (hHeld.2.2.2.2.1)))),((cell_far (p:=⟨gb277,_,none⟩) NB273_277.out _).trans (((cell_far (p:=⟨gb277,_,none⟩) NB273_277.out _).trans (hHeld.2.2.2.2.2.1)))),((cell_far (p:=⟨gb277,_,none⟩) NB274_277.out _).trans (((cell_far (p:=⟨gb277,_,none⟩) NB274_277.out _).trans (hHeld.2.2.2.2.2.2.1)))),((cell_far (p:=⟨gb277,_,none⟩) NB274_277.out _).trans (((cell_far (p:=⟨gb277,_,none⟩) NB274_277.out _).trans (hHeld.2.2.2.2.2.2.2))))⟩ (fun hHeld => ?_);clear hK K;refine one_ (i:=38) (N:=none) #[true,true,true,true,true,true,true,true,true,true,true,true,true,true,true,true,true,true,true,true,true,true,true,true,true,true,true,true,true,true,true,true,true,true,true,true,true,true,true] rfl rfl (one_of HT_.out (by kernel_rfl)) (by decide) (fun K hK => ?_);have hs25 : w20.cell? ⟨gb278,0,none⟩ = some (.int .i64 0):=(bc BK278.out 0).trans rfl;have hfs25:=bz BK278.out 0;have hns25_0:=NB272_278.out;have hns25_1:=NB273_278.out;have hns25_2:=NB274_278.out;have hns25_3:=NB275_278.out;have hns25_4:=NB276_278.out;have hns25_5:=NB277_278.out;have hms25_0:=NB278_272.out;have hms25_1:=NB278_273.out;have hms25_2:=NB278_274.out;have hms25_3:=NB278_275.out;have hms25_4:=NB278_276.out;have hms25_5:=NB278_277.out;have hs26 : w20.cell? ⟨gb278,1,none⟩ = some (.int .i64 0):=(bc BK278.out 1).trans rfl;have hfs26:=bz BK278.out 1;have hns26_0:=NB272_278.out;have hns26_1:=NB273_278.out;have hns26_2:=NB274_278.out;have hns26_3:=NB275_278.out;have hns26_4:=NB276_278.out;have hns26_5:=NB277_278.out;have hms26_0:=NB278_272.out;have hms26_1:=NB278_273.out;have hms26_2:=NB278_274.out;have hms26_3:=NB278_275.out;have hms26_4:=NB278_276.out;have hms26_5:=NB278_277.out;refine skip_ (w1:=?_) (by rfl) rfl ?_ ?_
  rotate_left
  · go_simp
    rfl
  refine hK.out _ _ ⟨((cell_far (p:=⟨gb278,_,none⟩) NB272_278.out _).trans (((cell_far (p:=⟨gb278,_,none⟩) NB272_278.out _).trans (hHeld.1)))),((cell_far (p:=⟨gb278,_,none⟩) NB272_278.out _).trans (((cell_far (p:=⟨gb278,_,none⟩) NB272_278.out _).trans (hHeld.2.1)))),((cell_far (p:=⟨gb278,_,none⟩) NB275_278.out _).trans (((cell_far (p:=⟨gb278,_,none⟩) NB275_278.out _).trans (hHeld.2.2.1)))),((cell_far (p:=⟨gb278,_,none⟩) NB275_278.out _).trans (((cell_far (p:=⟨gb278,_,none⟩) NB275_278.out _).trans (hHeld.2.2.2.1)))),((cell_far (p:=⟨gb278,_,none⟩) NB273_278.out _).trans (((cell_far (p:=⟨gb278,_,none⟩) NB273_278.out _).trans (hHeld.2.2.2.2.1)))),((cell_far (p:=⟨gb278,_,none⟩) NB273_278.out _).trans (((cell_far (p:=⟨gb278,_,none⟩) NB273_278.out _).trans (hHeld.2.2.2.2.2.1)))),((cell_far (p:=⟨gb278,_,none⟩) NB274_278.out _).trans (((cell_far (p:=⟨gb278,_,none⟩) NB274_278.out _).trans (hHeld.2.2.2.2.2.2.1)))),((cell_far (p:=⟨gb278,_,none⟩) NB274_278.out _).trans (((cell_far (p:=⟨gb278,_,none⟩) NB274_278.out _).trans (hHeld.2.2.2.2.2.2.2))))⟩ (fun hHeld => ?_);clear hK K;refine done_ (done_of HT_.out (by kernel_rfl)) ?_
  go_upto_region 3 with (fail)
  go_cut [69] (fun v69 wc => ∃ (kq : Nat) (x69_5 : Bool),v69 = .bool x69_5 ∧ Aside0 (celluloidlaw16_CurveShifts.j0 kq x69_5 a0_0 a0_1 a1_0 a1_1 a2_0 a2_1 (wrap64 (2 * (wrap64 (a3)))) (wrap64 (2 * (wrap64 (a4)))) (wrap64 (a0_0 + (wrap64 (2 * (wrap64 (a3)))))) (wrap64 (a0_1 + (wrap64 (2 * (wrap64 (a4)))))) (wrap64 (a1_0 + (wrap64 (2 * (wrap64 (a3)))))) (wrap64 (a1_1 + (wrap64 (2 * (wrap64 (a4)))))) (wrap64 (a2_0 + (wrap64 (2 * (wrap64 (a3)))))) (wrap64 (a2_1 + (wrap64 (2 * (wrap64 (a4)))))) = some r) ∧ Aside0 (kq ≤ k) ∧ Aside0 (wc.heap[gb272]? = some (.cells #[.int .i64 a0_0,.int .i64 a0_1] 23 (0,0))) ∧ Aside0 (wc.heap[gb273]? = some (.cells #[.int .i64 a1_0,.int .i64 a1_1] 23 (0,0))) ∧ Aside0 (wc.heap[gb274]? = some (.cells #[.int .i64 a2_0,.int .i64 a2_1] 23 (0,0))) ∧ Aside0 (wc.heap[gb275]? = some (.cells #[.int .i64 (wrap64 (2 * (wrap64 (a3)))),.int .i64 (wrap64 (2 * (wrap64 (a4))))] 23 (0,0))) ∧ Aside0 (wc.heap[gb276]? = some (.cells #[.int .i64 (wrap64 (a0_0 + (wrap64 (2 * (wrap64 (a3)))))),.int .i64 (wrap64 (a0_1 + (wrap64 (2 * (wrap64 (a4))))))] 23 (0,0))) ∧ Aside0 (wc.heap[gb277]? = some (.cells #[.int .i64 (wrap64 (a1_0 + (wrap64 (2 * (wrap64 (a3)))))),.int .i64 (wrap64 (a1_1 + (wrap64 (2 * (wrap64 (a4))))))] 23 (0,0))) ∧ Aside0 (wc.heap[gb278]? = some (.cells #[.int .i64 (wrap64 (a2_0 + (wrap64 (2 * (wrap64 (a3)))))),.int .i64 (wrap64 (a2_1 + (wrap64 (2 * (wrap64 (a4))))))] 23 (0,0))) ∧ Aside0 (Below w.heap.size w wc))
  case first =>
    have H:=HC6.out;clear HC6;replace H:=Option.bind_eq_some_iff.mp H;obtain ⟨t279,A270,H⟩:=H;replace H : (if t279 = true then ((celluloidlaw16_right.f k (wrap64 (a0_0 + (wrap64 (2 * (wrap64 (a3)))))) (wrap64 (a0_1 + (wrap64 (2 * (wrap64 (a4)))))) (wrap64 (a1_0 + (wrap64 (2 * (wrap64 (a3)))))) (wrap64 (a1_1 + (wrap64 (2 * (wrap64 (a4)))))) (wrap64 (a2_0 + (wrap64 (2 * (wrap64 (a3)))))) (wrap64 (a2_1 + (wrap64 (2 * (wrap64 (a4))))))).bind fun t280 => (celluloidlaw16_CurveShifts.j0 k (!t280) a0_0 a0_1 a1_0 a1_1 a2_0 a2_1 (wrap64 (2 * (wrap64 (a3)))) (wrap64 (2 * (wrap64 (a4)))) (wrap64 (a0_0 + (wrap64 (2 * (wrap64 (a3)))))) (wrap64 (a0_1 + (wrap64 (2 * (wrap64 (a4)))))) (wrap64 (a1_0 + (wrap64 (2 * (wrap64 (a3)))))) (wrap64 (a1_1 + (wrap64 (2 * (wrap64 (a4)))))) (wrap64 (a2_0 + (wrap64 (2 * (wrap64 (a3)))))) (wrap64 (a2_1 + (wrap64 (2 * (wrap64 (a4)))))))) else (celluloidlaw16_CurveShifts.j0 k true a0_0 a0_1 a1_0 a1_1 a2_0 a2_1 (wrap64 (2 * (wrap64 (a3)))) (wrap64 (2 * (wrap64 (a4)))) (wrap64 (a0_0 + (wrap64 (2 * (wrap64 (a3)))))) (wrap64 (a0_1 + (wrap64 (2 * (wrap64 (a4)))))) (wrap64 (a1_0 + (wrap64 (2 * (wrap64 (a3)))))) (wrap64 (a1_1 + (wrap64 (2 * (wrap64 (a4)))))) (wrap64 (a2_0 + (wrap64 (2 * (wrap64 (a3)))))) (wrap64 (a2_1 + (wrap64 (2 * (wrap64 (a4)))))))) = some r:=H;have A27:=am A270;clear A270
    by_cases c28 : t279 = true
    · subst c28
      have H1 : ((celluloidlaw16_right.f k (wrap64 (a0_0 + (wrap64 (2 * (wrap64 (a3)))))) (wrap64 (a0_1 + (wrap64 (2 * (wrap64 (a4)))))) (wrap64 (a1_0 + (wrap64 (2 * (wrap64 (a3)))))) (wrap64 (a1_1 + (wrap64 (2 * (wrap64 (a4)))))) (wrap64 (a2_0 + (wrap64 (2 * (wrap64 (a3)))))) (wrap64 (a2_1 + (wrap64 (2 * (wrap64 (a4))))))).bind fun t280 => (celluloidlaw16_CurveShifts.j0 k (!t280) a0_0 a0_1 a1_0 a1_1 a2_0 a2_1 (wrap64 (2 * (wrap64 (a3)))) (wrap64 (2 * (wrap64 (a4)))) (wrap64 (a0_0 + (wrap64 (2 * (wrap64 (a3)))))) (wrap64 (a0_1 + (wrap64 (2 * (wrap64 (a4)))))) (wrap64 (a1_0 + (wrap64 (2 * (wrap64 (a3)))))) (wrap64 (a1_1 + (wrap64 (2 * (wrap64 (a4)))))) (wrap64 (a2_0 + (wrap64 (2 * (wrap64 (a3)))))) (wrap64 (a2_1 + (wrap64 (2 * (wrap64 (a4)))))))) = some r:=by rw [if_pos rfl] at H;exact H
      clear H;have H:=H1;clear H1;replace H:=Option.bind_eq_some_iff.mp H;obtain ⟨t280,A290,H⟩:=H;replace H : (celluloidlaw16_CurveShifts.j0 k (!t280) a0_0 a0_1 a1_0 a1_1 a2_0 a2_1 (wrap64 (2 * (wrap64 (a3)))) (wrap64 (2 * (wrap64 (a4)))) (wrap64 (a0_0 + (wrap64 (2 * (wrap64 (a3)))))) (wrap64 (a0_1 + (wrap64 (2 * (wrap64 (a4)))))) (wrap64 (a1_0 + (wrap64 (2 * (wrap64 (a3)))))) (wrap64 (a1_1 + (wrap64 (2 * (wrap64 (a4)))))) (wrap64 (a2_0 + (wrap64 (2 * (wrap64 (a3)))))) (wrap64 (a2_1 + (wrap64 (2 * (wrap64 (a4))))))) = some r:=H;have A29:=am A290;clear A290;have H':=am H;clear H;have hnb30:=NB272_273.out;have hnc30:=NB273_272.out;have hnb31:=NB272_274.out;have hnc31:=NB274_272.out;have hnb32:=NB272_275.out;have hnc32:=NB275_272.out;have hnb33:=NB272_276.out;have hnc33:=NB276_272.out;have hnb34:=NB272_277.out;have hnc34:=NB277_272.out;have hnb35:=NB272_278.out;have hnc35:=NB278_272.out;have hcz36_0 : w20.cell? ⟨gb272,0,none⟩ = some (.int .i64 a0_0):=(bc BK272.out 0).trans rfl;have hcz36_1 : w20.cell? ⟨gb272,1,none⟩ = some (.int .i64 a0_1):=(bc BK272.out 1).trans rfl;have hfz36_0:=bz BK272.out 0;have hfz36_1:=bz BK272.out 1;have hnb37:=NB273_274.out;have hnc37:=NB274_273.out;have hnb38:=NB273_275.out;have hnc38:=NB275_273.out;have hnb39:=NB273_276.out;have hnc39:=NB276_273.out;have hnb40:=NB273_277.out;have hnc40:=NB277_273.out;have hnb41:=NB273_278.out;have hnc41:=NB278_273.out;have hcz42_0 : w20.cell? ⟨gb273,0,none⟩ = some (.int .i64 a1_0):=(bc BK273.out 0).trans rfl;have hcz42_1 : w20.cell? ⟨gb273,1,none⟩ = some (.int .i64 a1_1):=(bc BK273.out 1).trans rfl;have hfz42_0:=bz BK273.out 0;have hfz42_1:=bz BK273.out 1;have hnb43:=NB274_275.out;have hnc43:=NB275_274.out;have hnb44:=NB274_276.out;have hnc44:=NB276_274.out;have hnb45:=NB274_277.out;have hnc45:=NB277_274.out;have hnb46:=NB274_278.out;have hnc46:=NB278_274.out;have hcz47_0 : w20.cell? ⟨gb274,0,none⟩ = some (.int .i64 a2_0):=(bc BK274.out 0).trans rfl;have hcz47_1 : w20.cell? ⟨gb274,1,none⟩ = some (.int .i64 a2_1):=(bc BK274.out 1).trans rfl;have hfz47_0:=bz BK274.out 0;have hfz47_1:=bz BK274.out 1
      go_wp2_with (first|((with_reducible refine gate_callee (f:=11) rfl ?_);refine goesL_ (some 61) rfl rfl Try.func11 (by kernel_rfl) rfl #[.agg #[.int .i64 a0_0,.int .i64 a0_1],.agg #[.int .i64 a1_0,.int .i64 a1_1],.agg #[.int .i64 a2_0,.int .i64 a2_1]] rfl (by (try simp only [List.map_toArray,List.map_cons,List.map_nil]);first|done|rfl|(simp only [List.length_drop,List.length_take];rfl)) ?_;(with_reducible refine (celluloidlaw16_right.calls k a0_0 a0_1 a1_0 a1_1 a2_0 a2_1 true _ A27.out).mono ?_);rintro e w48 ⟨rfl,hb⟩;refine ⟨_,rfl,?_⟩;replace BK272:=am (wz BK272.out (by (with_reducible repeat (first|refine bn ?_ _|refine bd ?_|refine ba ?_ _|refine bf ?_ NB272_278.out _|refine bf ?_ NB272_277.out _|refine bf ?_ NB272_276.out _));exact BK272.out) hb);replace BK273:=am (wz BK273.out (by (with_reducible repeat (first|refine bn ?_ _|refine bd ?_|refine ba ?_ _|refine bf ?_ NB273_278.out _|refine bf ?_ NB273_277.out _|refine bf ?_ NB273_276.out _));exact BK273.out) hb);replace BK274:=am (wz BK274.out (by (with_reducible repeat (first|refine bn ?_ _|refine bd ?_|refine ba ?_ _|refine bf ?_ NB274_278.out _|refine bf ?_ NB274_277.out _|refine bf ?_ NB274_276.out _));exact BK274.out) hb);replace BK275:=am (wz BK275.out (by (with_reducible repeat (first|refine bn ?_ _|refine bd ?_|refine ba ?_ _|refine bf ?_ NB275_278.out _|refine bf ?_ NB275_277.out _|refine bf ?_ NB275_276.out _));exact BK275.out) hb);replace BK276:=am (bw (g:=gb276) (o:=.cells #[.int .i64 (wrap64 (a0_0 + (wrap64 (2 * (wrap64 (a3)))))),.int .i64 (wrap64 (a0_1 + (wrap64 (2 * (wrap64 (a4))))))] 23 (0,0)) (by (with_reducible repeat (first|refine bn ?_ _|refine bd ?_|refine ba ?_ _));refine bf ?_ NB276_278.out _;(with_reducible repeat (first|refine bn ?_ _|refine bd ?_|refine ba ?_ _));refine bf ?_ NB276_278.out _;(with_reducible repeat (first|refine bn ?_ _|refine bd ?_|refine ba ?_ _));refine bf ?_ NB276_277.out _;(with_reducible repeat (first|refine bn ?_ _|refine bd ?_|refine ba ?_ _));refine bf ?_ NB276_277.out _;(with_reducible repeat (first|refine bn ?_ _|refine bd ?_|refine ba ?_ _));refine bp (cs:=#[.int .i64 (wrap64 (a0_0 + (wrap64 (2 * (wrap64 (a3)))))),.int .i64 0]) ?_ 1 _ rfl;(with_reducible repeat (first|refine bn ?_ _|refine bd ?_|refine ba ?_ _));refine bp (cs:=#[.int .i64 0,.int .i64 0]) ?_ 0 _ rfl;(with_reducible repeat (first|refine bn ?_ _|refine bd ?_|refine ba ?_ _));exact BK276.out) hb);replace BK277:=am (bw (g:=gb277) (o:=.cells #[.int .i64 (wrap64 (a1_0 + (wrap64 (2 * (wrap64 (a3)))))),.int .i64 (wrap64 (a1_1 + (wrap64 (2 * (wrap64 (a4))))))] 23 (0,0)) (by (with_reducible repeat (first|refine bn ?_ _|refine bd ?_|refine ba ?_ _));refine bf ?_ NB277_278.out _;(with_reducible repeat (first|refine bn ?_ _|refine bd ?_|refine ba ?_ _));refine bf ?_ NB277_278.out _;(with_reducible repeat (first|refine bn ?_ _|refine bd ?_|refine ba ?_ _));refine bp (cs:=#[.int .i64 (wrap64 (a1_0 + (wrap64 (2 * (wrap64 (a3)))))),.int .i64 0]) ?_ 1 _ rfl;(with_reducible repeat (first|refine bn ?_ _|refine bd ?_|refine ba ?_ _));refine bp (cs:=#[.int .i64 0,.int .i64 0]) ?_ 0 _ rfl;(with_reducible repeat (first|refine bn ?_ _|refine bd ?_|refine ba ?_ _));refine bf ?_ NB277_276.out _;(with_reducible repeat (first|refine bn ?_ _|refine bd ?_|refine ba ?_ _));refine bf ?_ NB277_276.out _;(with_reducible repeat (first|refine bn ?_ _|refine bd ?_|refine ba ?_ _));exact BK277.out) hb);replace BK278:=am (bw (g:=gb278) (o:=.cells #[.int .i64 (wrap64 (a2_0 + (wrap64 (2 * (wrap64 (a3)))))),.int .i64 (wrap64 (a2_1 + (wrap64 (2 * (wrap64 (a4))))))] 23 (0,0)) (by (with_reducible repeat (first|refine bn ?_ _|refine bd ?_|refine ba ?_ _));refine bp (cs:=#[.int .i64 (wrap64 (a2_0 + (wrap64 (2 * (wrap64 (a3)))))),.int .i64 0]) ?_ 1 _ rfl;(with_reducible repeat (first|refine bn ?_ _|refine bd ?_|refine ba ?_ _));refine bp (cs:=#[.int .i64 0,.int .i64 0]) ?_ 0 _ rfl;(with_reducible repeat (first|refine bn ?_ _|refine bd ?_|refine ba ?_ _));refine bf ?_ NB278_277.out _;(with_reducible repeat (first|refine bn ?_ _|refine bd ?_|refine ba ?_ _));refine bf ?_ NB278_277.out _;(with_reducible repeat (first|refine bn ?_ _|refine bd ?_|refine ba ?_ _));refine bf ?_ NB278_276.out _;(with_reducible repeat (first|refine bn ?_ _|refine bd ?_|refine ba ?_ _));refine bf ?_ NB278_276.out _;(with_reducible repeat (first|refine bn ?_ _|refine bd ?_|refine ba ?_ _));exact BK278.out) hb);replace HB:=am (ss (by repeat (first|(with_reducible first|exact HB.out|apply sa|apply sn|apply sd|refine sy ?_ (by assumption))|exact HB.out)) hb);(try clear hb);(try clear hb2);(try clear hk);(try clear hi);have hnb49:=NB276_275.out;have hnc49:=NB275_276.out;have hnb50:=NB276_277.out;have hnc50:=NB277_276.out;have hnb51:=NB276_278.out;have hnc51:=NB278_276.out;have hcz52_0 : w48.cell? ⟨gb276,0,none⟩ = some (.int .i64 (wrap64 (a0_0 + (wrap64 (2 * (wrap64 (a3))))))):=(bc BK276.out 0).trans rfl;have hcz52_1 : w48.cell? ⟨gb276,1,none⟩ = some (.int .i64 (wrap64 (a0_1 + (wrap64 (2 * (wrap64 (a4))))))):=(bc BK276.out 1).trans rfl;obtain ⟨hfz52_0,hfz52_1⟩:=fq2 BK276.out;have hnb53:=NB277_275.out;have hnc53:=NB275_277.out;have hnb54:=NB277_278.out;have hnc54:=NB278_277.out;have hcz55_0 : w48.cell? ⟨gb277,0,none⟩ = some (.int .i64 (wrap64 (a1_0 + (wrap64 (2 * (wrap64 (a3))))))):=(bc BK277.out 0).trans rfl;have hcz55_1 : w48.cell? ⟨gb277,1,none⟩ = some (.int .i64 (wrap64 (a1_1 + (wrap64 (2 * (wrap64 (a4))))))):=(bc BK277.out 1).trans rfl;obtain ⟨hfz55_0,hfz55_1⟩:=fq2 BK277.out;have hnb56:=NB278_275.out;have hnc56:=NB275_278.out;have hcz57_0 : w48.cell? ⟨gb278,0,none⟩ = some (.int .i64 (wrap64 (a2_0 + (wrap64 (2 * (wrap64 (a3))))))):=(bc BK278.out 0).trans rfl;have hcz57_1 : w48.cell? ⟨gb278,1,none⟩ = some (.int .i64 (wrap64 (a2_1 + (wrap64 (2 * (wrap64 (a4))))))):=(bc BK278.out 1).trans rfl;obtain ⟨hfz57_0,hfz57_1⟩:=fq2 BK278.out)|(go_at_call 11;(with_reducible refine (celluloidlaw16_right.calls k (wrap64 (a0_0 + (wrap64 (2 * (wrap64 (a3)))))) (wrap64 (a0_1 + (wrap64 (2 * (wrap64 (a4)))))) (wrap64 (a1_0 + (wrap64 (2 * (wrap64 (a3)))))) (wrap64 (a1_1 + (wrap64 (2 * (wrap64 (a4)))))) (wrap64 (a2_0 + (wrap64 (2 * (wrap64 (a3)))))) (wrap64 (a2_1 + (wrap64 (2 * (wrap64 (a4)))))) t280 _ A29.out).mono ?_);rintro e w58 ⟨rfl,hb⟩;replace BK272:=am (bw (by exact BK272.out) hb);replace BK273:=am (bw (by exact BK273.out) hb);replace BK274:=am (bw (by exact BK274.out) hb);replace BK275:=am (bw (by exact BK275.out) hb);replace BK276:=am (bw (by exact BK276.out) hb);replace BK277:=am (bw (by exact BK277.out) hb);replace BK278:=am (bw (by exact BK278.out) hb);replace HB:=am (ss (by repeat (first|(with_reducible first|exact HB.out|apply sa|apply sn|apply sd|refine sy ?_ (by assumption))|exact HB.out)) hb);(try clear hb);(try clear hb2);(try clear hk);(try clear hi)))
      go_meet
      case rel => exact ⟨_,(!t280),(by first|rfl|(simp;done)|(simp [*];done)),H',⟨by first|omega|exact Nat.le_refl _⟩,⟨by exact BK272.out⟩,⟨by exact BK273.out⟩,⟨by exact BK274.out⟩,⟨by exact BK275.out⟩,⟨by exact BK276.out⟩,⟨by exact BK277.out⟩,⟨by exact BK278.out⟩,⟨by repeat (first|(with_reducible first|exact HB.out|apply sa|apply sn|apply sd|refine sy ?_ (by assumption))|exact HB.out)⟩⟩
    · replace c28:=Bool.eq_false_iff.mpr c28
      subst c28
      have H1 : (celluloidlaw16_CurveShifts.j0 k true a0_0 a0_1 a1_0 a1_1 a2_0 a2_1 (wrap64 (2 * (wrap64 (a3)))) (wrap64 (2 * (wrap64 (a4)))) (wrap64 (a0_0 + (wrap64 (2 * (wrap64 (a3)))))) (wrap64 (a0_1 + (wrap64 (2 * (wrap64 (a4)))))) (wrap64 (a1_0 + (wrap64 (2 * (wrap64 (a3)))))) (wrap64 (a1_1 + (wrap64 (2 * (wrap64 (a4)))))) (wrap64 (a2_0 + (wrap64 (2 * (wrap64 (a3)))))) (wrap64 (a2_1 + (wrap64 (2 * (wrap64 (a4))))))) = some r:=by rw [if_neg (show ¬ (false = true) by decide)] at H;exact H
      clear H;have H:=H1;clear H1;have H':=am H;clear H;have hnb59:=NB272_273.out;have hnc59:=NB273_272.out;have hnb60:=NB272_274.out;have hnc60:=NB274_272.out;have hnb61:=NB272_275.out;have hnc61:=NB275_272.out;have hnb62:=NB272_276.out;have hnc62:=NB276_272.out;have hnb63:=NB272_277.out;have hnc63:=NB277_272.out;have hnb64:=NB272_278.out;have hnc64:=NB278_272.out;have hcz65_0 : w20.cell? ⟨gb272,0,none⟩ = some (.int .i64 a0_0):=(bc BK272.out 0).trans rfl;have hcz65_1 : w20.cell? ⟨gb272,1,none⟩ = some (.int .i64 a0_1):=(bc BK272.out 1).trans rfl;have hfz65_0:=bz BK272.out 0;have hfz65_1:=bz BK272.out 1;have hnb66:=NB273_274.out;have hnc66:=NB274_273.out;have hnb67:=NB273_275.out;have hnc67:=NB275_273.out;have hnb68:=NB273_276.out;have hnc68:=NB276_273.out;have hnb69:=NB273_277.out;have hnc69:=NB277_273.out;have hnb70:=NB273_278.out;have hnc70:=NB278_273.out;have hcz71_0 : w20.cell? ⟨gb273,0,none⟩ = some (.int .i64 a1_0):=(bc BK273.out 0).trans rfl;have hcz71_1 : w20.cell? ⟨gb273,1,none⟩ = some (.int .i64 a1_1):=(bc BK273.out 1).trans rfl;have hfz71_0:=bz BK273.out 0;have hfz71_1:=bz BK273.out 1;have hnb72:=NB274_275.out;have hnc72:=NB275_274.out;have hnb73:=NB274_276.out;have hnc73:=NB276_274.out;have hnb74:=NB274_277.out;have hnc74:=NB277_274.out;have hnb75:=NB274_278.out;have hnc75:=NB278_274.out;have hcz76_0 : w20.cell? ⟨gb274,0,none⟩ = some (.int .i64 a2_0):=(bc BK274.out 0).trans rfl;have hcz76_1 : w20.cell? ⟨gb274,1,none⟩ = some (.int .i64 a2_1):=(bc BK274.out 1).trans rfl;have hfz76_0:=bz BK274.out 0;have hfz76_1:=bz BK274.out 1
      go_wp2_with (first|((with_reducible refine gate_callee (f:=11) rfl ?_);refine goesL_ (some 61) rfl rfl Try.func11 (by kernel_rfl) rfl #[.agg #[.int .i64 a0_0,.int .i64 a0_1],.agg #[.int .i64 a1_0,.int .i64 a1_1],.agg #[.int .i64 a2_0,.int .i64 a2_1]] rfl (by (try simp only [List.map_toArray,List.map_cons,List.map_nil]);first|done|rfl|(simp only [List.length_drop,List.length_take];rfl)) ?_;(with_reducible refine (celluloidlaw16_right.calls k a0_0 a0_1 a1_0 a1_1 a2_0 a2_1 false _ A27.out).mono ?_);rintro e w77 ⟨rfl,hb⟩;refine ⟨_,rfl,?_⟩;replace BK272:=am (wz BK272.out (by (with_reducible repeat (first|refine bn ?_ _|refine bd ?_|refine ba ?_ _|refine bf ?_ NB272_278.out _|refine bf ?_ NB272_277.out _|refine bf ?_ NB272_276.out _));exact BK272.out) hb);replace BK273:=am (wz BK273.out (by (with_reducible repeat (first|refine bn ?_ _|refine bd ?_|refine ba ?_ _|refine bf ?_ NB273_278.out _|refine bf ?_ NB273_277.out _|refine bf ?_ NB273_276.out _));exact BK273.out) hb);replace BK274:=am (wz BK274.out (by (with_reducible repeat (first|refine bn ?_ _|refine bd ?_|refine ba ?_ _|refine bf ?_ NB274_278.out _|refine bf ?_ NB274_277.out _|refine bf ?_ NB274_276.out _));exact BK274.out) hb);replace BK275:=am (wz BK275.out (by (with_reducible repeat (first|refine bn ?_ _|refine bd ?_|refine ba ?_ _|refine bf ?_ NB275_278.out _|refine bf ?_ NB275_277.out _|refine bf ?_ NB275_276.out _));exact BK275.out) hb);replace BK276:=am (bw (g:=gb276) (o:=.cells #[.int .i64 (wrap64 (a0_0 + (wrap64 (2 * (wrap64 (a3)))))),.int .i64 (wrap64 (a0_1 + (wrap64 (2 * (wrap64 (a4))))))] 23 (0,0)) (by (with_reducible repeat (first|refine bn ?_ _|refine bd ?_|refine ba ?_ _));refine bf ?_ NB276_278.out _;(with_reducible repeat (first|refine bn ?_ _|refine bd ?_|refine ba ?_ _));refine bf ?_ NB276_278.out _;(with_reducible repeat (first|refine bn ?_ _|refine bd ?_|refine ba ?_ _));refine bf ?_ NB276_277.out _;(with_reducible repeat (first|refine bn ?_ _|refine bd ?_|refine ba ?_ _));refine bf ?_ NB276_277.out _;(with_reducible repeat (first|refine bn ?_ _|refine bd ?_|refine ba ?_ _));refine bp (cs:=#[.int .i64 (wrap64 (a0_0 + (wrap64 (2 * (wrap64 (a3)))))),.int .i64 0]) ?_ 1 _ rfl;(with_reducible repeat (first|refine bn ?_ _|refine bd ?_|refine ba ?_ _));refine bp (cs:=#[.int .i64 0,.int .i64 0]) ?_ 0 _ rfl;(with_reducible repeat (first|refine bn ?_ _|refine bd ?_|refine ba ?_ _));exact BK276.out) hb);replace BK277:=am (bw (g:=gb277) (o:=.cells #[.int .i64 (wrap64 (a1_0 + (wrap64 (2 * (wrap64 (a3)))))),.int .i64 (wrap64 (a1_1 + (wrap64 (2 * (wrap64 (a4))))))] 23 (0,0)) (by (with_reducible repeat (first|refine bn ?_ _|refine bd ?_|refine ba ?_ _));refine bf ?_ NB277_278.out _;(with_reducible repeat (first|refine bn ?_ _|refine bd ?_|refine ba ?_ _));refine bf ?_ NB277_278.out _;(with_reducible repeat (first|refine bn ?_ _|refine bd ?_|refine ba ?_ _));refine bp (cs:=#[.int .i64 (wrap64 (a1_0 + (wrap64 (2 * (wrap64 (a3)))))),.int .i64 0]) ?_ 1 _ rfl;(with_reducible repeat (first|refine bn ?_ _|refine bd ?_|refine ba ?_ _));refine bp (cs:=#[.int .i64 0,.int .i64 0]) ?_ 0 _ rfl;(with_reducible repeat (first|refine bn ?_ _|refine bd ?_|refine ba ?_ _));refine bf ?_ NB277_276.out _;(with_reducible repeat (first|refine bn ?_ _|refine bd ?_|refine ba ?_ _));refine bf ?_ NB277_276.out _;(with_reducible repeat (first|refine bn ?_ _|refine bd ?_|refine ba ?_ _));exact BK277.out) hb);replace BK278:=am (bw (g:=gb278) (o:=.cells #[.int .i64 (wrap64 (a2_0 + (wrap64 (2 * (wrap64 (a3)))))),.int .i64 (wrap64 (a2_1 + (wrap64 (2 * (wrap64 (a4))))))] 23 (0,0)) (by (with_reducible repeat (first|refine bn ?_ _|refine bd ?_|refine ba ?_ _));refine bp (cs:=#[.int .i64 (wrap64 (a2_0 + (wrap64 (2 * (wrap64 (a3)))))),.int .i64 0]) ?_ 1 _ rfl;(with_reducible repeat (first|refine bn ?_ _|refine bd ?_|refine ba ?_ _));refine bp (cs:=#[.int .i64 0,.int .i64 0]) ?_ 0 _ rfl;(with_reducible repeat (first|refine bn ?_ _|refine bd ?_|refine ba ?_ _));refine bf ?_ NB278_277.out _;(with_reducible repeat (first|refine bn ?_ _|refine bd ?_|refine ba ?_ _));refine bf ?_ NB278_277.out _;(with_reducible repeat (first|refine bn ?_ _|refine bd ?_|refine ba ?_ _));refine bf ?_ NB278_276.out _;(with_reducible repeat (first|refine bn ?_ _|refine bd ?_|refine ba ?_ _));refine bf ?_ NB278_276.out _;(with_reducible repeat (first|refine bn ?_ _|refine bd ?_|refine ba ?_ _));exact BK278.out) hb);replace HB:=am (ss (by repeat (first|(with_reducible first|exact HB.out|apply sa|apply sn|apply sd|refine sy ?_ (by assumption))|exact HB.out)) hb);(try clear hb);(try clear hb2);(try clear hk);(try clear hi)))
      go_meet
      case rel => exact ⟨_,(true),(by first|rfl|(simp;done)|(simp [*];done)),H',⟨by first|omega|exact Nat.le_refl _⟩,⟨by exact BK272.out⟩,⟨by exact BK273.out⟩,⟨by exact BK274.out⟩,⟨by exact BK275.out⟩,⟨by exact BK276.out⟩,⟨by exact BK277.out⟩,⟨by exact BK278.out⟩,⟨by repeat (first|(with_reducible first|exact HB.out|apply sa|apply sn|apply sd|refine sy ?_ (by assumption))|exact HB.out)⟩⟩
  case rest =>
    clear HC6
    try clear c1
    try clear c2
    try clear p2
    try clear c3
    try clear c4
    try clear c5
    try clear c6
    try clear p6
    try clear c7
    try clear c11
    try clear c28
    try clear c30
    try clear c31
    try clear c32
    try clear c33
    try clear c34
    try clear c35
    try clear c37
    try clear c38
    try clear c39
    try clear c40
    try clear c41
    try clear c43
    try clear c44
    try clear c45
    try clear c46
    try clear c49
    try clear c50
    try clear c51
    try clear c53
    try clear c54
    try clear c56
    try clear c59
    try clear c60
    try clear c61
    try clear c62
    try clear c63
    try clear c64
    try clear p64
    try clear c66
    try clear c67
    try clear c68
    try clear c69
    try clear c70
    try clear c72
    try clear c73
    try clear c74
    try clear c75
    try clear hcz36_0
    try clear hcz36_1
    try clear hcz42_0
    try clear hcz42_1
    try clear hcz47_0
    try clear hcz47_1
    try clear hcz52_0
    try clear hcz52_1
    try clear hcz55_0
    try clear hcz55_1
    try clear hcz57_0
    try clear hcz57_1
    try clear hcz65_0
    try clear hcz65_1
    try clear hcz71_0
    try clear hcz71_1
    try clear hcz76_0
    try clear hcz76_1
    try clear hfz36_0
    try clear hfz36_1
    try clear hfz42_0
    try clear hfz42_1
    try clear hfz47_0
    try clear hfz47_1
    try clear hfz52_0
    try clear hfz52_1
    try clear hfz55_0
    try clear hfz55_1
    try clear hfz57_0
    try clear hfz57_1
    try clear hfz65_0
    try clear hfz65_1
    try clear hfz71_0
    try clear hfz71_1
    try clear hfz76_0
    try clear hfz76_1
    obtain ⟨kq,x69_5,rfl,HA,HJ5,BK272,BK273,BK274,BK275,BK276,BK277,BK278,HB⟩:=hcut
    cases kq with
    | zero => exact absurd HA.out (by simp [celluloidlaw16_CurveShifts.j0])
    | succ kj5 =>
      have H:=HA.out;clear HA;simp only [celluloidlaw16_CurveShifts.j0] at H
      by_cases c78 : x69_5 = true
      · subst c78
        have H1 : ((celluloidlaw16_awake.f kj5).bind fun t281 => (some t281)) = some r:=by rw [if_pos rfl] at H;exact H
        clear H;have H:=H1;clear H1;replace H:=Option.bind_eq_some_iff.mp H;obtain ⟨t281,A790,H⟩:=H;replace H : (some t281) = some r:=H;have A79:=am A790;clear A790;obtain rfl:=Option.some.inj H
        go_wp2_with (first|((with_reducible refine gate_callee (f:=14) rfl ?_);refine goesL_ (some 70) rfl rfl Try.func14 (by kernel_rfl) rfl #[] rfl (by (try simp only [List.map_toArray,List.map_cons,List.map_nil]);first|done|rfl|(simp only [List.length_drop,List.length_take];rfl)) ?_;(with_reducible refine (celluloidlaw16_awake.calls kj5  t281 _ A79.out).mono ?_);rintro e w80 ⟨rfl,hb⟩;refine ⟨_,rfl,?_⟩;replace BK272:=am (bw (by exact BK272.out) hb);replace BK273:=am (bw (by exact BK273.out) hb);replace BK274:=am (bw (by exact BK274.out) hb);replace BK275:=am (bw (by exact BK275.out) hb);replace BK276:=am (bw (by exact BK276.out) hb);replace BK277:=am (bw (by exact BK277.out) hb);replace BK278:=am (bw (by exact BK278.out) hb);replace HB:=am (ss (by repeat (first|(with_reducible first|exact HB.out|apply sa|apply sn|apply sd|refine sy ?_ (by assumption))|exact HB.out)) hb);(try clear hb);(try clear hb2);(try clear hk);(try clear hi)))
        go_ret
        exact ⟨by first|rfl|(simp [errW_none,errW_some] <;> rfl)|(simp [*,errW_none,errW_some] <;> rfl),by repeat (first|(with_reducible first|exact HB.out|apply sa|apply sn|apply sd|refine sy ?_ (by assumption))|exact HB.out)⟩
      · replace c78:=Bool.eq_false_iff.mpr c78
        subst c78
        have H1 : ((curve_Flat.f kj5 a0_0 a0_1 a1_0 a1_1 a2_0 a2_1).bind fun t282 => ((curve_Flat.f kj5 (wrap64 (a0_0 + (wrap64 (2 * (wrap64 (a3)))))) (wrap64 (a0_1 + (wrap64 (2 * (wrap64 (a4)))))) (wrap64 (a1_0 + (wrap64 (2 * (wrap64 (a3)))))) (wrap64 (a1_1 + (wrap64 (2 * (wrap64 (a4)))))) (wrap64 (a2_0 + (wrap64 (2 * (wrap64 (a3)))))) (wrap64 (a2_1 + (wrap64 (2 * (wrap64 (a4))))))).bind fun t285 => (if (t282.length : Int) = (t285.length : Int) then (if (t282.length : Int) = 0 then (celluloidlaw16_CurveShifts.j1 kj5 t282 t285 true (wrap64 (2 * (wrap64 (a3)))) (wrap64 (2 * (wrap64 (a4))))) else ((curve_Bend.f a0_0 a0_1 a1_0 a1_1 a2_0 a2_1).bind fun t288 => ((curve_Bend.f (wrap64 (a0_0 + (wrap64 (2 * (wrap64 (a3)))))) (wrap64 (a0_1 + (wrap64 (2 * (wrap64 (a4)))))) (wrap64 (a1_0 + (wrap64 (2 * (wrap64 (a3)))))) (wrap64 (a1_1 + (wrap64 (2 * (wrap64 (a4)))))) (wrap64 (a2_0 + (wrap64 (2 * (wrap64 (a3)))))) (wrap64 (a2_1 + (wrap64 (2 * (wrap64 (a4))))))).bind fun t289 => (celluloidlaw16_CurveShifts.j1 kj5 t282 t285 (t288 != t289) (wrap64 (2 * (wrap64 (a3)))) (wrap64 (2 * (wrap64 (a4)))))))) else (celluloidlaw16_CurveShifts.j1 kj5 t282 t285 true (wrap64 (2 * (wrap64 (a3)))) (wrap64 (2 * (wrap64 (a4)))))))) = some r:=by rw [if_neg (show ¬ (false = true) by decide)] at H;exact H
        clear H;have H:=H1;clear H1;replace H:=Option.bind_eq_some_iff.mp H;obtain ⟨t282,A810,H⟩:=H;replace H : ((curve_Flat.f kj5 (wrap64 (a0_0 + (wrap64 (2 * (wrap64 (a3)))))) (wrap64 (a0_1 + (wrap64 (2 * (wrap64 (a4)))))) (wrap64 (a1_0 + (wrap64 (2 * (wrap64 (a3)))))) (wrap64 (a1_1 + (wrap64 (2 * (wrap64 (a4)))))) (wrap64 (a2_0 + (wrap64 (2 * (wrap64 (a3)))))) (wrap64 (a2_1 + (wrap64 (2 * (wrap64 (a4))))))).bind fun t285 => (if (t282.length : Int) = (t285.length : Int) then (if (t282.length : Int) = 0 then (celluloidlaw16_CurveShifts.j1 kj5 t282 t285 true (wrap64 (2 * (wrap64 (a3)))) (wrap64 (2 * (wrap64 (a4))))) else ((curve_Bend.f a0_0 a0_1 a1_0 a1_1 a2_0 a2_1).bind fun t288 => ((curve_Bend.f (wrap64 (a0_0 + (wrap64 (2 * (wrap64 (a3)))))) (wrap64 (a0_1 + (wrap64 (2 * (wrap64 (a4)))))) (wrap64 (a1_0 + (wrap64 (2 * (wrap64 (a3)))))) (wrap64 (a1_1 + (wrap64 (2 * (wrap64 (a4)))))) (wrap64 (a2_0 + (wrap64 (2 * (wrap64 (a3)))))) (wrap64 (a2_1 + (wrap64 (2 * (wrap64 (a4))))))).bind fun t289 => (celluloidlaw16_CurveShifts.j1 kj5 t282 t285 (t288 != t289) (wrap64 (2 * (wrap64 (a3)))) (wrap64 (2 * (wrap64 (a4)))))))) else (celluloidlaw16_CurveShifts.j1 kj5 t282 t285 true (wrap64 (2 * (wrap64 (a3)))) (wrap64 (2 * (wrap64 (a4))))))) = some r:=H;have A81:=am A810;clear A810;replace H:=Option.bind_eq_some_iff.mp H;obtain ⟨t285,A820,H⟩:=H;replace H : (if (t282.length : Int) = (t285.length : Int) then (if (t282.length : Int) = 0 then (celluloidlaw16_CurveShifts.j1 kj5 t282 t285 true (wrap64 (2 * (wrap64 (a3)))) (wrap64 (2 * (wrap64 (a4))))) else ((curve_Bend.f a0_0 a0_1 a1_0 a1_1 a2_0 a2_1).bind fun t288 => ((curve_Bend.f (wrap64 (a0_0 + (wrap64 (2 * (wrap64 (a3)))))) (wrap64 (a0_1 + (wrap64 (2 * (wrap64 (a4)))))) (wrap64 (a1_0 + (wrap64 (2 * (wrap64 (a3)))))) (wrap64 (a1_1 + (wrap64 (2 * (wrap64 (a4)))))) (wrap64 (a2_0 + (wrap64 (2 * (wrap64 (a3)))))) (wrap64 (a2_1 + (wrap64 (2 * (wrap64 (a4))))))).bind fun t289 => (celluloidlaw16_CurveShifts.j1 kj5 t282 t285 (t288 != t289) (wrap64 (2 * (wrap64 (a3)))) (wrap64 (2 * (wrap64 (a4)))))))) else (celluloidlaw16_CurveShifts.j1 kj5 t282 t285 true (wrap64 (2 * (wrap64 (a3)))) (wrap64 (2 * (wrap64 (a4)))))) = some r:=H;have A82:=am A820;clear A820;have HC83:=am H;clear H
        try go_wp2
        replace BK272:=am (bd BK272.out);replace BK273:=am (bd BK273.out);replace BK274:=am (bd BK274.out);replace BK275:=am (bd BK275.out);replace BK276:=am (bd BK276.out);replace BK277:=am (bd BK277.out);replace BK278:=am (bd BK278.out);replace HB:=am (sd HB.out);refine start_ (n:=10) (S:=fun w' => w'.cell? ⟨gb272,0,none⟩ = some (.int .i64 a0_0) ∧ w'.cell? ⟨gb272,1,none⟩ = some (.int .i64 a0_1) ∧ w'.cell? ⟨gb273,0,none⟩ = some (.int .i64 a1_0) ∧ w'.cell? ⟨gb273,1,none⟩ = some (.int .i64 a1_1) ∧ w'.cell? ⟨gb274,0,none⟩ = some (.int .i64 a2_0) ∧ w'.cell? ⟨gb274,1,none⟩ = some (.int .i64 a2_1) ∧ w'.cell? ⟨gb276,0,none⟩ = some (.int .i64 (wrap64 (a0_0 + (wrap64 (2 * (wrap64 (a3))))))) ∧ w'.cell? ⟨gb276,1,none⟩ = some (.int .i64 (wrap64 (a0_1 + (wrap64 (2 * (wrap64 (a4))))))) ∧ w'.cell? ⟨gb277,0,none⟩ = some (.int .i64 (wrap64 (a1_0 + (wrap64 (2 * (wrap64 (a3))))))) ∧ w'.cell? ⟨gb277,1,none⟩ = some (.int .i64 (wrap64 (a1_1 + (wrap64 (2 * (wrap64 (a4))))))) ∧ w'.cell? ⟨gb278,0,none⟩ = some (.int .i64 (wrap64 (a2_0 + (wrap64 (2 * (wrap64 (a3))))))) ∧ w'.cell? ⟨gb278,1,none⟩ = some (.int .i64 (wrap64 (a2_1 + (wrap64 (2 * (wrap64 (a4)))))))) (ds:=[]) #[false,false,false,false,false,false,false,false,false,false] (by kernel_rfl) rfl rfl ⟨(bc BK272.out 0).trans rfl,(bc BK272.out 1).trans rfl,(bc BK273.out 0).trans rfl,(bc BK273.out 1).trans rfl,(bc BK274.out 0).trans rfl,(bc BK274.out 1).trans rfl,(bc BK276.out 0).trans rfl,(bc BK276.out 1).trans rfl,(bc BK277.out 0).trans rfl,(bc BK277.out 1).trans rfl,(bc BK278.out 0).trans rfl,(bc BK278.out 1).trans rfl⟩ (fun hHeld => ?_);refine with_tabW celluloidlaw16_CurveShifts.tab5 celluloidlaw16_CurveShifts.bits5 (fun HT_ HW_ => ?_);generalize wc.drew = w84 at BK272 BK273 BK274 BK275 BK276 BK277 BK278 HB hHeld ⊢;refine take_ (i:=0) (N:=some 71) (v:=?_) (a':=?_) #[true,false,false,false,false,false,false,false,false,false] rfl rfl (take_ofW HT_.out HW_.out (by kernel_rfl)) (fun _ _ _ h => h) (Or.inl ⟨by rfl,?_⟩) hHeld ?_ ?_
        rotate_left
        · rintro w' ⟨s0,s1,s2,s3,s4,s5,s6,s7,s8,s9,s10,s11⟩
          go_simp
          with_reducible rfl
        rotate_left
        · simp only [Act.put,q1,q2,q3,i64_w,i32_w]
          rfl
        refine take_ (i:=1) (N:=some 72) (v:=?_) (a':=?_) #[true,true,false,false,false,false,false,false,false,false] rfl rfl (take_ofW HT_.out HW_.out (by kernel_rfl)) (fun _ _ _ h => h) (Or.inl ⟨by rfl,?_⟩) hHeld ?_ ?_
        rotate_left
        · rintro w' ⟨s0,s1,s2,s3,s4,s5,s6,s7,s8,s9,s10,s11⟩
          go_simp
          with_reducible rfl
        rotate_left
        · simp only [Act.put,q1,q2,q3,i64_w,i32_w]
          rfl
        refine take_ (i:=2) (N:=some 73) (v:=?_) (a':=?_) #[true,true,true,false,false,false,false,false,false,false] rfl rfl (take_ofW HT_.out HW_.out (by kernel_rfl)) (fun _ _ _ h => h) (Or.inl ⟨by rfl,?_⟩) hHeld ?_ ?_
        rotate_left
        · rintro w' ⟨s0,s1,s2,s3,s4,s5,s6,s7,s8,s9,s10,s11⟩
          go_simp
          with_reducible rfl
        rotate_left
        · simp only [Act.put,q1,q2,q3,i64_w,i32_w]
          rfl
        refine take_ (i:=4) (N:=some 75) (v:=?_) (a':=?_) #[true,true,true,false,true,false,false,false,false,false] rfl rfl (take_ofW HT_.out HW_.out (by kernel_rfl)) (fun _ _ _ h => h) (Or.inl ⟨by rfl,?_⟩) hHeld ?_ ?_
        rotate_left
        · rintro w' ⟨s0,s1,s2,s3,s4,s5,s6,s7,s8,s9,s10,s11⟩
          go_simp
          with_reducible rfl
        rotate_left
        · simp only [Act.put,q1,q2,q3,i64_w,i32_w]
          rfl
        refine take_ (i:=5) (N:=some 76) (v:=?_) (a':=?_) #[true,true,true,false,true,true,false,false,false,false] rfl rfl (take_ofW HT_.out HW_.out (by kernel_rfl)) (fun _ _ _ h => h) (Or.inl ⟨by rfl,?_⟩) hHeld ?_ ?_
        rotate_left
        · rintro w' ⟨s0,s1,s2,s3,s4,s5,s6,s7,s8,s9,s10,s11⟩
          go_simp
          with_reducible rfl
        rotate_left
        · simp only [Act.put,q1,q2,q3,i64_w,i32_w]
          rfl
        refine take_ (i:=6) (N:=some 77) (v:=?_) (a':=?_) #[true,true,true,false,true,true,true,false,false,false] rfl rfl (take_ofW HT_.out HW_.out (by kernel_rfl)) (fun _ _ _ h => h) (Or.inl ⟨by rfl,?_⟩) hHeld ?_ ?_
        rotate_left
        · rintro w' ⟨s0,s1,s2,s3,s4,s5,s6,s7,s8,s9,s10,s11⟩
          go_simp
          with_reducible rfl
        rotate_left
        · simp only [Act.put,q1,q2,q3,i64_w,i32_w]
          rfl
        refine one_ (i:=3) (N:=some 74) #[true,true,true,true,true,true,true,false,false,false] rfl rfl (one_of HT_.out (by kernel_rfl)) (by decide) (fun K hK => ?_);refine goes_ Try.func8 (by kernel_rfl) rfl #[.agg #[.int .i64 a0_0,.int .i64 a0_1],.agg #[.int .i64 a1_0,.int .i64 a1_1],.agg #[.int .i64 a2_0,.int .i64 a2_1]] (by rfl) rfl rfl (by (try simp only [List.map_toArray,List.map_cons,List.map_nil]);first|done|rfl|(simp only [List.length_drop,List.length_take];rfl)) ?_
        with_reducible refine (curve_Flat.calls kj5 a0_0 a0_1 a1_0 a1_1 a2_0 a2_1 t282 _ A81.out).mono ?_
        rintro e w85 ⟨v283,rfl,ho0,hb⟩
        refine ⟨_,rfl,?_⟩;have HO284:=am (Kd.R_lower (Kd.R_newB (Kd.R_newB (Kd.R_newB (Kd.R_newB (Kd.R_newB (Kd.R_newB (Kd.R_newB ho0 (g:=gb272) (o:=.cells #[.int .i64 a0_0,.int .i64 a0_1] 23 (0,0)) (by exact BK272.out)) (g:=gb273) (o:=.cells #[.int .i64 a1_0,.int .i64 a1_1] 23 (0,0)) (by exact BK273.out)) (g:=gb274) (o:=.cells #[.int .i64 a2_0,.int .i64 a2_1] 23 (0,0)) (by exact BK274.out)) (g:=gb275) (o:=.cells #[.int .i64 (wrap64 (2 * (wrap64 (a3)))),.int .i64 (wrap64 (2 * (wrap64 (a4))))] 23 (0,0)) (by exact BK275.out)) (g:=gb276) (o:=.cells #[.int .i64 (wrap64 (a0_0 + (wrap64 (2 * (wrap64 (a3)))))),.int .i64 (wrap64 (a0_1 + (wrap64 (2 * (wrap64 (a4))))))] 23 (0,0)) (by exact BK276.out)) (g:=gb277) (o:=.cells #[.int .i64 (wrap64 (a1_0 + (wrap64 (2 * (wrap64 (a3)))))),.int .i64 (wrap64 (a1_1 + (wrap64 (2 * (wrap64 (a4))))))] 23 (0,0)) (by exact BK277.out)) (g:=gb278) (o:=.cells #[.int .i64 (wrap64 (a2_0 + (wrap64 (2 * (wrap64 (a3)))))),.int .i64 (wrap64 (a2_1 + (wrap64 (2 * (wrap64 (a4))))))] 23 (0,0)) (by exact BK278.out)) (sz (by repeat (first|(with_reducible first|exact HB.out|apply sa|apply sn|apply sd|refine sy ?_ (by assumption))|exact HB.out))));replace BK272:=am (bw (by exact BK272.out) hb);replace BK273:=am (bw (by exact BK273.out) hb);replace BK274:=am (bw (by exact BK274.out) hb);replace BK275:=am (bw (by exact BK275.out) hb);replace BK276:=am (bw (by exact BK276.out) hb);replace BK277:=am (bw (by exact BK277.out) hb);replace BK278:=am (bw (by exact BK278.out) hb);replace HB:=am (ss (by repeat (first|(with_reducible first|exact HB.out|apply sa|apply sn|apply sd|refine sy ?_ (by assumption))|exact HB.out)) hb);(try clear hb);(try clear hb2);(try clear hk);(try clear hi);(try clear ho0);refine hK.out _ _ ⟨(bc BK272.out 0).trans rfl,(bc BK272.out 1).trans rfl,(bc BK273.out 0).trans rfl,(bc BK273.out 1).trans rfl,(bc BK274.out 0).trans rfl,(bc BK274.out 1).trans rfl,(bc BK276.out 0).trans rfl,(bc BK276.out 1).trans rfl,(bc BK277.out 0).trans rfl,(bc BK277.out 1).trans rfl,(bc BK278.out 0).trans rfl,(bc BK278.out 1).trans rfl⟩ (fun hHeld => ?_);clear hK K;refine norm_ (a':=?_) ?_ ?_
        rotate_left
        · show Act.put _ (some 74) _ = _
          simp only [Act.put,q1,q2,q3,i64_w,i32_w]
          rfl
        refine one_ (i:=7) (N:=some 78) #[true,true,true,true,true,true,true,true,false,false] rfl rfl (one_of HT_.out (by kernel_rfl)) (by decide) (fun K hK => ?_);refine goes_ Try.func8 (by kernel_rfl) rfl #[.agg #[.int .i64 (wrap64 (a0_0 + (wrap64 (2 * (wrap64 (a3)))))),.int .i64 (wrap64 (a0_1 + (wrap64 (2 * (wrap64 (a4))))))],.agg #[.int .i64 (wrap64 (a1_0 + (wrap64 (2 * (wrap64 (a3)))))),.int .i64 (wrap64 (a1_1 + (wrap64 (2 * (wrap64 (a4))))))],.agg #[.int .i64 (wrap64 (a2_0 + (wrap64 (2 * (wrap64 (a3)))))),.int .i64 (wrap64 (a2_1 + (wrap64 (2 * (wrap64 (a4))))))]] (by rfl) rfl rfl (by (try simp only [List.map_toArray,List.map_cons,List.map_nil]);first|done|rfl|(simp only [List.length_drop,List.length_take];rfl)) ?_
        with_reducible refine (curve_Flat.calls kj5 (wrap64 (a0_0 + (wrap64 (2 * (wrap64 (a3)))))) (wrap64 (a0_1 + (wrap64 (2 * (wrap64 (a4)))))) (wrap64 (a1_0 + (wrap64 (2 * (wrap64 (a3)))))) (wrap64 (a1_1 + (wrap64 (2 * (wrap64 (a4)))))) (wrap64 (a2_0 + (wrap64 (2 * (wrap64 (a3)))))) (wrap64 (a2_1 + (wrap64 (2 * (wrap64 (a4)))))) t285 _ A82.out).mono ?_
        rintro e w86 ⟨v286,rfl,ho0,hb⟩
        refine ⟨_,rfl,?_⟩;have HO287:=am (Kd.R_lower (Kd.R_newB (Kd.R_newB (Kd.R_newB (Kd.R_newB (Kd.R_newB (Kd.R_newB (Kd.R_newB (Kd.R_new' ho0 (Kd.R_lt (by (with_reducible repeat (first|apply Kd.R_alloc|apply Kd.R_drewN|apply Kd.R_drew));exact HO284.out))) (g:=gb272) (o:=.cells #[.int .i64 a0_0,.int .i64 a0_1] 23 (0,0)) (by exact BK272.out)) (g:=gb273) (o:=.cells #[.int .i64 a1_0,.int .i64 a1_1] 23 (0,0)) (by exact BK273.out)) (g:=gb274) (o:=.cells #[.int .i64 a2_0,.int .i64 a2_1] 23 (0,0)) (by exact BK274.out)) (g:=gb275) (o:=.cells #[.int .i64 (wrap64 (2 * (wrap64 (a3)))),.int .i64 (wrap64 (2 * (wrap64 (a4))))] 23 (0,0)) (by exact BK275.out)) (g:=gb276) (o:=.cells #[.int .i64 (wrap64 (a0_0 + (wrap64 (2 * (wrap64 (a3)))))),.int .i64 (wrap64 (a0_1 + (wrap64 (2 * (wrap64 (a4))))))] 23 (0,0)) (by exact BK276.out)) (g:=gb277) (o:=.cells #[.int .i64 (wrap64 (a1_0 + (wrap64 (2 * (wrap64 (a3)))))),.int .i64 (wrap64 (a1_1 + (wrap64 (2 * (wrap64 (a4))))))] 23 (0,0)) (by exact BK277.out)) (g:=gb278) (o:=.cells #[.int .i64 (wrap64 (a2_0 + (wrap64 (2 * (wrap64 (a3)))))),.int .i64 (wrap64 (a2_1 + (wrap64 (2 * (wrap64 (a4))))))] 23 (0,0)) (by exact BK278.out)) (sz (by repeat (first|(with_reducible first|exact HB.out|apply sa|apply sn|apply sd|refine sy ?_ (by assumption))|exact HB.out))));replace HO284:=am (Kd.R_elder' (by (with_reducible repeat (first|apply Kd.R_alloc|apply Kd.R_drewN|apply Kd.R_drew));exact HO284.out) (Kd.R_base ho0) hb);replace BK272:=am (bw (by exact BK272.out) hb);replace BK273:=am (bw (by exact BK273.out) hb);replace BK274:=am (bw (by exact BK274.out) hb);replace BK275:=am (bw (by exact BK275.out) hb);replace BK276:=am (bw (by exact BK276.out) hb);replace BK277:=am (bw (by exact BK277.out) hb);replace BK278:=am (bw (by exact BK278.out) hb);replace HB:=am (ss (by repeat (first|(with_reducible first|exact HB.out|apply sa|apply sn|apply sd|refine sy ?_ (by assumption))|exact HB.out)) hb);(try clear hb);(try clear hb2);(try clear hk);(try clear hi);(try clear ho0);refine hK.out _ _ ⟨(bc BK272.out 0).trans rfl,(bc BK272.out 1).trans rfl,(bc BK273.out 0).trans rfl,(bc BK273.out 1).trans rfl,(bc BK274.out 0).trans rfl,(bc BK274.out 1).trans rfl,(bc BK276.out 0).trans rfl,(bc BK276.out 1).trans rfl,(bc BK277.out 0).trans rfl,(bc BK277.out 1).trans rfl,(bc BK278.out 0).trans rfl,(bc BK278.out 1).trans rfl⟩ (fun hHeld => ?_);clear hK K;refine norm_ (a':=?_) ?_ ?_
        rotate_left
        · show Act.put _ (some 78) _ = _
          simp only [Act.put,q1,q2,q3,i64_w,i32_w]
          rfl
        refine pure_ (i:=8) (N:=some 15) (v:=?_) (a':=?_) #[true,true,true,true,true,true,true,true,true,false] rfl rfl (any_of HT_.out (by kernel_rfl)) (fun _ _ _ h => h) (Or.inl ⟨by rfl,?_⟩) ?_ ?_
        rotate_left
        · intro w'
          go_simp
          with_reducible rfl
        rotate_left
        · simp only [Act.put,q1,q2,q3,i64_w,i32_w]
          rfl
        refine pure_ (i:=9) (N:=some 16) (v:=?_) (a':=?_) #[true,true,true,true,true,true,true,true,true,true] rfl rfl (any_of HT_.out (by kernel_rfl)) (fun _ _ _ h => h) (Or.inl ⟨by rfl,?_⟩) ?_ ?_
        rotate_left
        · intro w'
          go_simp
          with_reducible rfl
        rotate_left
        · simp only [Act.put,q1,q2,q3,i64_w,i32_w]
          rfl
        refine done_ (done_of HT_.out (by kernel_rfl)) ?_
        go_upto_region 6 with (fail)
        go_cut [99] (fun v99 wc => ∃ (kq : Nat) (x99_82 : Bool),v99 = .bool x99_82 ∧ Aside0 (celluloidlaw16_CurveShifts.j1 kq t282 t285 x99_82 (wrap64 (2 * (wrap64 (a3)))) (wrap64 (2 * (wrap64 (a4)))) = some r) ∧ Aside0 (kq ≤ kj5) ∧ Aside0 (Kd.R k23 23 wc w.heap.size (fun k_ => some k_ ≠ (v286 : Value).ownBlock ∧ k_ ≠ gb272 ∧ k_ ≠ gb273 ∧ k_ ≠ gb274 ∧ k_ ≠ gb275 ∧ k_ ≠ gb276 ∧ k_ ≠ gb277 ∧ k_ ≠ gb278) v283 t282) ∧ Aside0 (Kd.R k23 23 wc w.heap.size (fun k_ => some k_ ≠ (v283 : Value).ownBlock ∧ k_ ≠ gb272 ∧ k_ ≠ gb273 ∧ k_ ≠ gb274 ∧ k_ ≠ gb275 ∧ k_ ≠ gb276 ∧ k_ ≠ gb277 ∧ k_ ≠ gb278) v286 t285) ∧ Aside0 (wc.heap[gb272]? = some (.cells #[.int .i64 a0_0,.int .i64 a0_1] 23 (0,0))) ∧ Aside0 (wc.heap[gb273]? = some (.cells #[.int .i64 a1_0,.int .i64 a1_1] 23 (0,0))) ∧ Aside0 (wc.heap[gb274]? = some (.cells #[.int .i64 a2_0,.int .i64 a2_1] 23 (0,0))) ∧ Aside0 (wc.heap[gb275]? = some (.cells #[.int .i64 (wrap64 (2 * (wrap64 (a3)))),.int .i64 (wrap64 (2 * (wrap64 (a4))))] 23 (0,0))) ∧ Aside0 (wc.heap[gb276]? = some (.cells #[.int .i64 (wrap64 (a0_0 + (wrap64 (2 * (wrap64 (a3)))))),.int .i64 (wrap64 (a0_1 + (wrap64 (2 * (wrap64 (a4))))))] 23 (0,0))) ∧ Aside0 (wc.heap[gb277]? = some (.cells #[.int .i64 (wrap64 (a1_0 + (wrap64 (2 * (wrap64 (a3)))))),.int .i64 (wrap64 (a1_1 + (wrap64 (2 * (wrap64 (a4))))))] 23 (0,0))) ∧ Aside0 (wc.heap[gb278]? = some (.cells #[.int .i64 (wrap64 (a2_0 + (wrap64 (2 * (wrap64 (a3)))))),.int .i64 (wrap64 (a2_1 + (wrap64 (2 * (wrap64 (a4))))))] 23 (0,0))) ∧ Aside0 (Below w.heap.size w wc))
        case first =>
          have H:=HC83.out;clear HC83
          by_cases c87 : (t282.length : Int) = (t285.length : Int)
          · rw [if_pos c87] at H
            have c87b0 : ((t282.length : Int) == (t285.length : Int)) = true:=beq_iff_eq.mpr c87;have c87b1 : ((t282.length : Int) != (t285.length : Int)) = false:=bne_eq_false_iff_eq.mpr c87
            have c87b2 : (t282.length == t285.length) = true:=by first|simpa using c87|(simp at c87 ⊢;omega)
            clear c87
            (first|rw [c87b0]|(simp only [i64_w,i32_w];rw [c87b0])|skip)
            by_cases c88 : (t282.length : Int) = 0
            · rw [if_pos c88] at H
              have c88b0 : ((t282.length : Int) == 0) = true:=beq_iff_eq.mpr c88;have c88b1 : ((t282.length : Int) != 0) = false:=bne_eq_false_iff_eq.mpr c88;clear c88;have H':=am H;clear H
              try go_wp2
              replace HO284:=am (Kd.R_drew HO284.out);replace HO287:=am (Kd.R_drew HO287.out);replace BK272:=am (bd BK272.out);replace BK273:=am (bd BK273.out);replace BK274:=am (bd BK274.out);replace BK275:=am (bd BK275.out);replace BK276:=am (bd BK276.out);replace BK277:=am (bd BK277.out);replace BK278:=am (bd BK278.out);replace HB:=am (sd HB.out);obtain ⟨Ao90,co90,eo90⟩:=Kd.R_slice HO284.out
              (first|subst eo90|(injection eo90 with f1_ f2_ f3_;have f4_:=f1_.symm;have f5_:=f3_.symm;clear f1_ f2_ f3_;subst f4_;subst f5_))
              obtain ⟨Ao91,co91,eo91⟩:=Kd.R_slice HO287.out
              (first|subst eo91|(injection eo91 with f1_ f2_ f3_;have f4_:=f1_.symm;have f5_:=f3_.symm;clear f1_ f2_ f3_;subst f4_;subst f5_))
              refine start_ (n:=21) (S:=fun w' => True) (ds:=[]) #[false,false,false,false,false,false,false,false,false,false,false,false,false,false,false,false,false,false,false,false,false] (by kernel_rfl) rfl rfl trivial (fun hHeld => ?_);refine with_tabW celluloidlaw16_CurveShifts.tab6 celluloidlaw16_CurveShifts.bits6 (fun HT_ HW_ => ?_);generalize w86.drew = w89 at HO284 HO287 BK272 BK273 BK274 BK275 BK276 BK277 BK278 HB hHeld ⊢;refine pure_ (i:=0) (N:=some 79) (v:=?_) (a':=?_) #[true,false,false,false,false,false,false,false,false,false,false,false,false,false,false,false,false,false,false,false,false] rfl rfl (any_of HT_.out (by kernel_rfl)) (fun _ _ _ h => h) (Or.inl ⟨by rfl,?_⟩) ?_ ?_
              rotate_left
              · intro w'
                go_simp
                with_reducible rfl
              rotate_left
              · simp only [Act.put,q1,q2,q3,i64_w,i32_w]
                rfl
              refine pure_ (i:=1) (N:=some 80) (v:=?_) (a':=?_) #[true,true,false,false,false,false,false,false,false,false,false,false,false,false,false,false,false,false,false,false,false] rfl rfl (any_of HT_.out (by kernel_rfl)) (fun _ _ _ h => h) (Or.inl ⟨by rfl,?_⟩) ?_ ?_
              rotate_left
              · intro w'
                go_simp
                with_reducible rfl
              rotate_left
              · simp only [Act.put,q1,q2,q3,i64_w,i32_w]
                rfl
              refine pure_ (i:=2) (N:=some 81) (v:=?_) (a':=?_) #[true,true,true,false,false,false,false,false,false,false,false,false,false,false,false,false,false,false,false,false,false] rfl rfl (any_of HT_.out (by kernel_rfl)) (fun _ _ _ h => h) (Or.inl ⟨by rfl,?_⟩) ?_ ?_
              rotate_left
              · intro w'
                go_simp
                with_reducible rfl
              rotate_left
              · simp only [Act.put,q1,q2,q3,i64_w,i32_w]
                rfl
              refine pure_ (i:=3) (N:=some 82) (v:=?_) (a':=?_) #[true,true,true,true,false,false,false,false,false,false,false,false,false,false,false,false,false,false,false,false,false] rfl rfl (any_of HT_.out (by kernel_rfl)) (fun _ _ _ h => h) (Or.inl ⟨by rfl,?_⟩) ?_ ?_
              rotate_left
              · intro w'
                go_simp
                with_reducible rfl
              rotate_left
              · simp only [Act.put,q1,q2,q3,i64_w,i32_w]
                rfl
              refine pure_ (i:=4) (N:=some 83) (v:=?_) (a':=?_) #[true,true,true,true,true,false,false,false,false,false,false,false,false,false,false,false,false,false,false,false,false] rfl rfl (any_of HT_.out (by kernel_rfl)) (fun _ _ _ h => h) (Or.inl ⟨by rfl,?_⟩) ?_ ?_
              rotate_left
              · intro w'
                go_simp
                with_reducible rfl
              rotate_left
              · simp only [Act.put,q1,q2,q3,i64_w,i32_w]
                rfl
              refine pure_ (i:=5) (N:=some 84) (v:=?_) (a':=?_) #[true,true,true,true,true,true,false,false,false,false,false,false,false,false,false,false,false,false,false,false,false] rfl rfl (any_of HT_.out (by kernel_rfl)) (fun _ _ _ h => h) (Or.inl ⟨by rfl,?_⟩) ?_ ?_
              rotate_left
              · intro w'
                go_simp
                with_reducible rfl
              rotate_left
              · simp only [Act.put,q1,q2,q3,i64_w,i32_w]
                rfl
              refine pure_ (i:=6) (N:=some 85) (v:=?_) (a':=?_) #[true,true,true,true,true,true,true,false,false,false,false,false,false,false,false,false,false,false,false,false,false] rfl rfl (any_of HT_.out (by kernel_rfl)) (fun _ _ _ h => h) (Or.inl ⟨by rfl,?_⟩) ?_ ?_
              rotate_left
              · intro w'
                go_simp
                with_reducible rfl
              rotate_left
              · simp only [Act.put,q1,q2,q3,i64_w,i32_w]
                rfl
              refine pure_ (i:=7) (N:=some 86) (v:=?_) (a':=?_) #[true,true,true,true,true,true,true,true,false,false,false,false,false,false,false,false,false,false,false,false,false] rfl rfl (any_of HT_.out (by kernel_rfl)) (fun _ _ _ h => h) (Or.inl ⟨by rfl,?_⟩) ?_ ?_
              rotate_left
              · intro w'
                go_simp
                with_reducible rfl
              rotate_left
              · simp only [Act.put,q1,q2,q3,i64_w,i32_w]
                rfl
              refine pure_ (i:=8) (N:=some 87) (v:=?_) (a':=?_) #[true,true,true,true,true,true,true,true,true,false,false,false,false,false,false,false,false,false,false,false,false] rfl rfl (any_of HT_.out (by kernel_rfl)) (fun _ _ _ h => h) (Or.inl ⟨by rfl,?_⟩) ?_ ?_
              rotate_left
              · intro w'
                go_simp
                with_reducible rfl
              rotate_left
              · simp only [Act.put,q1,q2,q3,i64_w,i32_w]
                rfl
              refine pure_ (i:=9) (N:=some 88) (v:=?_) (a':=?_) #[true,true,true,true,true,true,true,true,true,true,false,false,false,false,false,false,false,false,false,false,false] rfl rfl (any_of HT_.out (by kernel_rfl)) (fun _ _ _ h => h) (Or.inl ⟨by rfl,?_⟩) ?_ ?_
              rotate_left
              · intro w'
                go_simp
                with_reducible rfl
              rotate_left
              · simp only [Act.put,q1,q2,q3,i64_w,i32_w]
                rfl
              refine pure_ (i:=10) (N:=some 89) (v:=?_) (a':=?_) #[true,true,true,true,true,true,true,true,true,true,true,false,false,false,false,false,false,false,false,false,false] rfl rfl (any_of HT_.out (by kernel_rfl)) (fun _ _ _ h => h) (Or.inl ⟨by rfl,?_⟩) ?_ ?_
              rotate_left
              · intro w'
                go_simp
                with_reducible rfl
              rotate_left
              · simp only [Act.put,q1,q2,q3,i64_w,i32_w]
                rfl
              refine pure_ (i:=11) (N:=some 90) (v:=undef) (a':=?_) #[true,true,true,true,true,true,true,true,true,true,true,true,false,false,false,false,false,false,false,false,false] rfl rfl (any_of HT_.out (by kernel_rfl)) (fun _ _ _ h => h) (Or.inr ⟨by rfl,rfl⟩) ?_ ?_
              rotate_left
              · simp only [Act.put,q1,q2,q3,i64_w,i32_w]
                rfl
              refine pure_ (i:=12) (N:=some 91) (v:=undef) (a':=?_) #[true,true,true,true,true,true,true,true,true,true,true,true,true,false,false,false,false,false,false,false,false] rfl rfl (any_of HT_.out (by kernel_rfl)) (fun _ _ _ h => h) (Or.inr ⟨by rfl,rfl⟩) ?_ ?_
              rotate_left
              · simp only [Act.put,q1,q2,q3,i64_w,i32_w]
                rfl
              refine pure_ (i:=13) (N:=some 92) (v:=undef) (a':=?_) #[true,true,true,true,true,true,true,true,true,true,true,true,true,true,false,false,false,false,false,false,false] rfl rfl (any_of HT_.out (by kernel_rfl)) (fun _ _ _ h => h) (Or.inr ⟨by rfl,rfl⟩) ?_ ?_
              rotate_left
              · simp only [Act.put,q1,q2,q3,i64_w,i32_w]
                rfl
              refine pure_ (i:=14) (N:=some 93) (v:=undef) (a':=?_) #[true,true,true,true,true,true,true,true,true,true,true,true,true,true,true,false,false,false,false,false,false] rfl rfl (any_of HT_.out (by kernel_rfl)) (fun _ _ _ h => h) (Or.inr ⟨by rfl,rfl⟩) ?_ ?_
              rotate_left
              · simp only [Act.put,q1,q2,q3,i64_w,i32_w]
                rfl
              refine pure_ (i:=15) (N:=some 94) (v:=undef) (a':=?_) #[true,true,true,true,true,true,true,true,true,true,true,true,true,true,true,true,false,false,false,false,false] rfl rfl (any_of HT_.out (by kernel_rfl)) (fun _ _ _ h => h) (Or.inr ⟨by rfl,rfl⟩) ?_ ?_
              rotate_left
              · simp only [Act.put,q1,q2,q3,i64_w,i32_w]
                rfl
              refine pure_ (i:=16) (N:=some 95) (v:=undef) (a':=?_) #[true,true,true,true,true,true,true,true,true,true,true,true,true,true,true,true,true,false,false,false,false] rfl rfl (any_of HT_.out (by kernel_rfl)) (fun _ _ _ h => h) (Or.inr ⟨by rfl,rfl⟩) ?_ ?_
              rotate_left
              · simp only [Act.put,q1,q2,q3,i64_w,i32_w]
                rfl
              refine pure_ (i:=17) (N:=some 96) (v:=undef) (a':=?_) #[true,true,true,true,true,true,true,true,true,true,true,true,true,true,true,true,true,true,false,false,false] rfl rfl (any_of HT_.out (by kernel_rfl)) (fun _ _ _ h => h) (Or.inr ⟨by rfl,rfl⟩) ?_ ?_
              rotate_left
              · simp only [Act.put,q1,q2,q3,i64_w,i32_w]
                rfl
              refine pure_ (i:=18) (N:=some 97) (v:=undef) (a':=?_) #[true,true,true,true,true,true,true,true,true,true,true,true,true,true,true,true,true,true,true,false,false] rfl rfl (any_of HT_.out (by kernel_rfl)) (fun _ _ _ h => h) (Or.inr ⟨by rfl,rfl⟩) ?_ ?_
              rotate_left
              · simp only [Act.put,q1,q2,q3,i64_w,i32_w]
                rfl
              refine pure_ (i:=19) (N:=some 98) (v:=undef) (a':=?_) #[true,true,true,true,true,true,true,true,true,true,true,true,true,true,true,true,true,true,true,true,false] rfl rfl (any_of HT_.out (by kernel_rfl)) (fun _ _ _ h => h) (Or.inr ⟨by rfl,rfl⟩) ?_ ?_
              rotate_left
              · simp only [Act.put,q1,q2,q3,i64_w,i32_w]
                rfl
              refine pure_ (i:=20) (N:=some 99) (v:=?_) (a':=?_) #[true,true,true,true,true,true,true,true,true,true,true,true,true,true,true,true,true,true,true,true,true] rfl rfl (any_of HT_.out (by kernel_rfl)) (fun _ _ _ h => h) (Or.inl ⟨by rfl,?_⟩) ?_ ?_
              rotate_left
              · intro w'
                go_simp
                with_reducible rfl
              rotate_left
              · simp only [Act.put,q1,q2,q3,i64_w,i32_w]
                rfl
              refine done_ (done_of HT_.out (by kernel_rfl)) ?_
              try go_wp2
              go_meet
              case rel => exact ⟨_,(true),(by first|rfl|(simp;done)|(simp [*];done)),H',⟨by have:=HJ5.out;first|omega|exact Nat.le_refl _⟩,⟨by (with_reducible repeat (first|apply Kd.R_alloc|apply Kd.R_drewN|apply Kd.R_drew));exact Kd.R_mono HO284.out (fun _ hk => ⟨hk.2,⟨hk.1.1.1.1.1.1.1.2,⟨hk.1.1.1.1.1.1.2,⟨hk.1.1.1.1.1.2,⟨hk.1.1.1.1.2,⟨hk.1.1.1.2,⟨hk.1.1.2,hk.1.2⟩⟩⟩⟩⟩⟩⟩)⟩,⟨by (with_reducible repeat (first|apply Kd.R_alloc|apply Kd.R_drewN|apply Kd.R_drew));exact Kd.R_mono HO287.out (fun _ hk => ⟨hk.1.1.1.1.1.1.1.2,⟨hk.1.1.1.1.1.1.2,⟨hk.1.1.1.1.1.2,⟨hk.1.1.1.1.2,⟨hk.1.1.1.2,⟨hk.1.1.2,⟨hk.1.2,hk.2⟩⟩⟩⟩⟩⟩⟩)⟩,⟨by exact BK272.out⟩,⟨by exact BK273.out⟩,⟨by exact BK274.out⟩,⟨by exact BK275.out⟩,⟨by exact BK276.out⟩,⟨by exact BK277.out⟩,⟨by exact BK278.out⟩,⟨by repeat (first|(with_reducible first|exact HB.out|apply sa|apply sn|apply sd|refine sy ?_ (by assumption))|exact HB.out)⟩⟩
            · rw [if_neg c88] at H
              have c88b0 : ((t282.length : Int) == 0) = false:=beq_eq_false_iff_ne.mpr c88;have c88b1 : ((t282.length : Int) != 0) = true:=bne_iff_ne.mpr c88
              have c88b2 : ¬ (t282 = []):=fun h_ => c88 (by rw [h_];rfl)
              replace H:=Option.bind_eq_some_iff.mp H;obtain ⟨t288,A920,H⟩:=H;replace H : ((curve_Bend.f (wrap64 (a0_0 + (wrap64 (2 * (wrap64 (a3)))))) (wrap64 (a0_1 + (wrap64 (2 * (wrap64 (a4)))))) (wrap64 (a1_0 + (wrap64 (2 * (wrap64 (a3)))))) (wrap64 (a1_1 + (wrap64 (2 * (wrap64 (a4)))))) (wrap64 (a2_0 + (wrap64 (2 * (wrap64 (a3)))))) (wrap64 (a2_1 + (wrap64 (2 * (wrap64 (a4))))))).bind fun t289 => (celluloidlaw16_CurveShifts.j1 kj5 t282 t285 (t288 != t289) (wrap64 (2 * (wrap64 (a3)))) (wrap64 (2 * (wrap64 (a4)))))) = some r:=H;have A92:=am A920;clear A920;replace H:=Option.bind_eq_some_iff.mp H;obtain ⟨t289,A930,H⟩:=H;replace H : (celluloidlaw16_CurveShifts.j1 kj5 t282 t285 (t288 != t289) (wrap64 (2 * (wrap64 (a3)))) (wrap64 (2 * (wrap64 (a4))))) = some r:=H;have A93:=am A930;clear A930;have H':=am H;clear H
              try go_wp2
              replace HO284:=am (Kd.R_drew HO284.out);replace HO287:=am (Kd.R_drew HO287.out);replace BK272:=am (bd BK272.out);replace BK273:=am (bd BK273.out);replace BK274:=am (bd BK274.out);replace BK275:=am (bd BK275.out);replace BK276:=am (bd BK276.out);replace BK277:=am (bd BK277.out);replace BK278:=am (bd BK278.out);replace HB:=am (sd HB.out);obtain ⟨Ao95,co95,eo95⟩:=Kd.R_slice HO284.out
              (first|subst eo95|(injection eo95 with f1_ f2_ f3_;have f4_:=f1_.symm;have f5_:=f3_.symm;clear f1_ f2_ f3_;subst f4_;subst f5_))
              obtain ⟨Ao96,co96,eo96⟩:=Kd.R_slice HO287.out
              (first|subst eo96|(injection eo96 with f1_ f2_ f3_;have f4_:=f1_.symm;have f5_:=f3_.symm;clear f1_ f2_ f3_;subst f4_;subst f5_))
              refine start_ (n:=21) (S:=fun w' => w'.cell? ⟨gb272,0,none⟩ = some (.int .i64 a0_0) ∧ w'.cell? ⟨gb272,1,none⟩ = some (.int .i64 a0_1) ∧ w'.cell? ⟨gb273,0,none⟩ = some (.int .i64 a1_0) ∧ w'.cell? ⟨gb273,1,none⟩ = some (.int .i64 a1_1) ∧ w'.cell? ⟨gb274,0,none⟩ = some (.int .i64 a2_0) ∧ w'.cell? ⟨gb274,1,none⟩ = some (.int .i64 a2_1) ∧ w'.cell? ⟨gb276,0,none⟩ = some (.int .i64 (wrap64 (a0_0 + (wrap64 (2 * (wrap64 (a3))))))) ∧ w'.cell? ⟨gb276,1,none⟩ = some (.int .i64 (wrap64 (a0_1 + (wrap64 (2 * (wrap64 (a4))))))) ∧ w'.cell? ⟨gb277,0,none⟩ = some (.int .i64 (wrap64 (a1_0 + (wrap64 (2 * (wrap64 (a3))))))) ∧ w'.cell? ⟨gb277,1,none⟩ = some (.int .i64 (wrap64 (a1_1 + (wrap64 (2 * (wrap64 (a4))))))) ∧ w'.cell? ⟨gb278,0,none⟩ = some (.int .i64 (wrap64 (a2_0 + (wrap64 (2 * (wrap64 (a3))))))) ∧ w'.cell? ⟨gb278,1,none⟩ = some (.int .i64 (wrap64 (a2_1 + (wrap64 (2 * (wrap64 (a4)))))))) (ds:=[]) #[false,false,false,false,false,false,false,false,false,false,false,false,false,false,false,false,false,false,false,false,false] (by kernel_rfl) rfl rfl ⟨(bc BK272.out 0).trans rfl,(bc BK272.out 1).trans rfl,(bc BK273.out 0).trans rfl,(bc BK273.out 1).trans rfl,(bc BK274.out 0).trans rfl,(bc BK274.out 1).trans rfl,(bc BK276.out 0).trans rfl,(bc BK276.out 1).trans rfl,(bc BK277.out 0).trans rfl,(bc BK277.out 1).trans rfl,(bc BK278.out 0).trans rfl,(bc BK278.out 1).trans rfl⟩ (fun hHeld => ?_);refine with_tabW celluloidlaw16_CurveShifts.tab6 celluloidlaw16_CurveShifts.bits6 (fun HT_ HW_ => ?_);generalize w86.drew = w94 at HO284 HO287 BK272 BK273 BK274 BK275 BK276 BK277 BK278 HB hHeld ⊢;refine pure_ (i:=0) (N:=some 79) (v:=?_) (a':=?_) #[true,false,false,false,false,false,false,false,false,false,false,false,false,false,false,false,false,false,false,false,false] rfl rfl (any_of HT_.out (by kernel_rfl)) (fun _ _ _ h => h) (Or.inl ⟨by rfl,?_⟩) ?_ ?_
              rotate_left
              · intro w'
                go_simp
                with_reducible rfl
              rotate_left
              · simp only [Act.put,q1,q2,q3,i64_w,i32_w]
                rfl
              refine pure_ (i:=1) (N:=some 80) (v:=?_) (a':=?_) #[true,true,false,false,false,false,false,false,false,false,false,false,false,false,false,false,false,false,false,false,false] rfl rfl (any_of HT_.out (by kernel_rfl)) (fun _ _ _ h => h) (Or.inl ⟨by rfl,?_⟩) ?_ ?_
              rotate_left
              · intro w'
                go_simp
                with_reducible rfl
              rotate_left
              · simp only [Act.put,q1,q2,q3,i64_w,i32_w]
                rfl
              refine pure_ (i:=2) (N:=some 81) (v:=?_) (a':=?_) #[true,true,true,false,false,false,false,false,false,false,false,false,false,false,false,false,false,false,false,false,false] rfl rfl (any_of HT_.out (by kernel_rfl)) (fun _ _ _ h => h) (Or.inl ⟨by rfl,?_⟩) ?_ ?_
              rotate_left
              · intro w'
                go_simp
                with_reducible rfl
              rotate_left
              · simp only [Act.put,q1,q2,q3,i64_w,i32_w]
                rfl
              refine pure_ (i:=3) (N:=some 82) (v:=?_) (a':=?_) #[true,true,true,true,false,false,false,false,false,false,false,false,false,false,false,false,false,false,false,false,false] rfl rfl (any_of HT_.out (by kernel_rfl)) (fun _ _ _ h => h) (Or.inl ⟨by rfl,?_⟩) ?_ ?_
              rotate_left
              · intro w'
                go_simp
                with_reducible rfl
              rotate_left
              · simp only [Act.put,q1,q2,q3,i64_w,i32_w]
                rfl
              refine pure_ (i:=4) (N:=some 83) (v:=?_) (a':=?_) #[true,true,true,true,true,false,false,false,false,false,false,false,false,false,false,false,false,false,false,false,false] rfl rfl (any_of HT_.out (by kernel_rfl)) (fun _ _ _ h => h) (Or.inl ⟨by rfl,?_⟩) ?_ ?_
              rotate_left
              · intro w'
                go_simp
                with_reducible rfl
              rotate_left
              · simp only [Act.put,q1,q2,q3,i64_w,i32_w]
                rfl
              refine pure_ (i:=5) (N:=some 84) (v:=?_) (a':=?_) #[true,true,true,true,true,true,false,false,false,false,false,false,false,false,false,false,false,false,false,false,false] rfl rfl (any_of HT_.out (by kernel_rfl)) (fun _ _ _ h => h) (Or.inl ⟨by rfl,?_⟩) ?_ ?_
              rotate_left
              · intro w'
                go_simp
                with_reducible rfl
              rotate_left
              · simp only [Act.put,q1,q2,q3,i64_w,i32_w]
                rfl
              refine pure_ (i:=6) (N:=some 85) (v:=?_) (a':=?_) #[true,true,true,true,true,true,true,false,false,false,false,false,false,false,false,false,false,false,false,false,false] rfl rfl (any_of HT_.out (by kernel_rfl)) (fun _ _ _ h => h) (Or.inl ⟨by rfl,?_⟩) ?_ ?_
              rotate_left
              · intro w'
                go_simp
                with_reducible rfl
              rotate_left
              · simp only [Act.put,q1,q2,q3,i64_w,i32_w]
                rfl
              refine pure_ (i:=7) (N:=some 86) (v:=?_) (a':=?_) #[true,true,true,true,true,true,true,true,false,false,false,false,false,false,false,false,false,false,false,false,false] rfl rfl (any_of HT_.out (by kernel_rfl)) (fun _ _ _ h => h) (Or.inl ⟨by rfl,?_⟩) ?_ ?_
              rotate_left
              · intro w'
                go_simp
                with_reducible rfl
              rotate_left
              · simp only [Act.put,q1,q2,q3,i64_w,i32_w]
                rfl
              refine pure_ (i:=8) (N:=some 87) (v:=?_) (a':=?_) #[true,true,true,true,true,true,true,true,true,false,false,false,false,false,false,false,false,false,false,false,false] rfl rfl (any_of HT_.out (by kernel_rfl)) (fun _ _ _ h => h) (Or.inl ⟨by rfl,?_⟩) ?_ ?_
              rotate_left
              · intro w'
                go_simp
                with_reducible rfl
              rotate_left
              · simp only [Act.put,q1,q2,q3,i64_w,i32_w]
                rfl
              refine pure_ (i:=9) (N:=some 88) (v:=?_) (a':=?_) #[true,true,true,true,true,true,true,true,true,true,false,false,false,false,false,false,false,false,false,false,false] rfl rfl (any_of HT_.out (by kernel_rfl)) (fun _ _ _ h => h) (Or.inl ⟨by rfl,?_⟩) ?_ ?_
              rotate_left
              · intro w'
                go_simp
                with_reducible rfl
              rotate_left
              · simp only [Act.put,q1,q2,q3,i64_w,i32_w]
                rfl
              refine pure_ (i:=10) (N:=some 89) (v:=?_) (a':=?_) #[true,true,true,true,true,true,true,true,true,true,true,false,false,false,false,false,false,false,false,false,false] rfl rfl (any_of HT_.out (by kernel_rfl)) (fun _ _ _ h => h) (Or.inl ⟨by rfl,?_⟩) ?_ ?_
              rotate_left
              · intro w'
                go_simp
                with_reducible rfl
              rotate_left
              · simp only [Act.put,q1,q2,q3,i64_w,i32_w]
                rfl
              refine take_ (i:=11) (N:=some 90) (v:=?_) (a':=?_) #[true,true,true,true,true,true,true,true,true,true,true,true,false,false,false,false,false,false,false,false,false] rfl rfl (take_ofW HT_.out HW_.out (by kernel_rfl)) (fun _ _ _ h => h) (Or.inl ⟨by rfl,?_⟩) hHeld ?_ ?_
              rotate_left
              · rintro w' ⟨s0,s1,s2,s3,s4,s5,s6,s7,s8,s9,s10,s11⟩
                go_simp
                with_reducible rfl
              rotate_left
              · simp only [Act.put,q1,q2,q3,i64_w,i32_w]
                rfl
              refine take_ (i:=12) (N:=some 91) (v:=?_) (a':=?_) #[true,true,true,true,true,true,true,true,true,true,true,true,true,false,false,false,false,false,false,false,false] rfl rfl (take_ofW HT_.out HW_.out (by kernel_rfl)) (fun _ _ _ h => h) (Or.inl ⟨by rfl,?_⟩) hHeld ?_ ?_
              rotate_left
              · rintro w' ⟨s0,s1,s2,s3,s4,s5,s6,s7,s8,s9,s10,s11⟩
                go_simp
                with_reducible rfl
              rotate_left
              · simp only [Act.put,q1,q2,q3,i64_w,i32_w]
                rfl
              refine take_ (i:=13) (N:=some 92) (v:=?_) (a':=?_) #[true,true,true,true,true,true,true,true,true,true,true,true,true,true,false,false,false,false,false,false,false] rfl rfl (take_ofW HT_.out HW_.out (by kernel_rfl)) (fun _ _ _ h => h) (Or.inl ⟨by rfl,?_⟩) hHeld ?_ ?_
              rotate_left
              · rintro w' ⟨s0,s1,s2,s3,s4,s5,s6,s7,s8,s9,s10,s11⟩
                go_simp
                with_reducible rfl
              rotate_left
              · simp only [Act.put,q1,q2,q3,i64_w,i32_w]
                rfl
              refine take_ (i:=15) (N:=some 94) (v:=?_) (a':=?_) #[true,true,true,true,true,true,true,true,true,true,true,true,true,true,false,true,false,false,false,false,false] rfl rfl (take_ofW HT_.out HW_.out (by kernel_rfl)) (fun _ _ _ h => h) (Or.inl ⟨by rfl,?_⟩) hHeld ?_ ?_
              rotate_left
              · rintro w' ⟨s0,s1,s2,s3,s4,s5,s6,s7,s8,s9,s10,s11⟩
                go_simp
                with_reducible rfl
              rotate_left
              · simp only [Act.put,q1,q2,q3,i64_w,i32_w]
                rfl
              refine take_ (i:=16) (N:=some 95) (v:=?_) (a':=?_) #[true,true,true,true,true,true,true,true,true,true,true,true,true,true,false,true,true,false,false,false,false] rfl rfl (take_ofW HT_.out HW_.out (by kernel_rfl)) (fun _ _ _ h => h) (Or.inl ⟨by rfl,?_⟩) hHeld ?_ ?_
              rotate_left
              · rintro w' ⟨s0,s1,s2,s3,s4,s5,s6,s7,s8,s9,s10,s11⟩
                go_simp
                with_reducible rfl
              rotate_left
              · simp only [Act.put,q1,q2,q3,i64_w,i32_w]
                rfl
              refine take_ (i:=17) (N:=some 96) (v:=?_) (a':=?_) #[true,true,true,true,true,true,true,true,true,true,true,true,true,true,false,true,true,true,false,false,false] rfl rfl (take_ofW HT_.out HW_.out (by kernel_rfl)) (fun _ _ _ h => h) (Or.inl ⟨by rfl,?_⟩) hHeld ?_ ?_
              rotate_left
              · rintro w' ⟨s0,s1,s2,s3,s4,s5,s6,s7,s8,s9,s10,s11⟩
                go_simp
                with_reducible rfl
              rotate_left
              · simp only [Act.put,q1,q2,q3,i64_w,i32_w]
                rfl
              refine one_ (i:=14) (N:=some 93) #[true,true,true,true,true,true,true,true,true,true,true,true,true,true,true,true,true,true,false,false,false] rfl rfl (one_of HT_.out (by kernel_rfl)) (by decide) (fun K hK => ?_);refine goes_ Try.func12 (by kernel_rfl) rfl #[.agg #[.int .i64 a0_0,.int .i64 a0_1],.agg #[.int .i64 a1_0,.int .i64 a1_1],.agg #[.int .i64 a2_0,.int .i64 a2_1]] (by rfl) rfl rfl (by (try simp only [List.map_toArray,List.map_cons,List.map_nil]);first|done|rfl|(simp only [List.length_drop,List.length_take];rfl)) ?_
              with_reducible refine (curve_Bend.calls a0_0 a0_1 a1_0 a1_1 a2_0 a2_1 t288 _ A92.out).mono ?_
              rintro e w97 ⟨rfl,hb⟩
              refine ⟨_,rfl,?_⟩;replace HO284:=am (Kd.R_below (by (with_reducible repeat (first|apply Kd.R_alloc|apply Kd.R_drewN|apply Kd.R_drew));exact HO284.out) hb);replace HO287:=am (Kd.R_below (by (with_reducible repeat (first|apply Kd.R_alloc|apply Kd.R_drewN|apply Kd.R_drew));exact HO287.out) hb);replace BK272:=am (bw (by exact BK272.out) hb);replace BK273:=am (bw (by exact BK273.out) hb);replace BK274:=am (bw (by exact BK274.out) hb);replace BK275:=am (bw (by exact BK275.out) hb);replace BK276:=am (bw (by exact BK276.out) hb);replace BK277:=am (bw (by exact BK277.out) hb);replace BK278:=am (bw (by exact BK278.out) hb);replace HB:=am (ss (by repeat (first|(with_reducible first|exact HB.out|apply sa|apply sn|apply sd|refine sy ?_ (by assumption))|exact HB.out)) hb);(try clear hb);(try clear hb2);(try clear hk);(try clear hi);refine hK.out _ _ ⟨(bc BK272.out 0).trans rfl,(bc BK272.out 1).trans rfl,(bc BK273.out 0).trans rfl,(bc BK273.out 1).trans rfl,(bc BK274.out 0).trans rfl,(bc BK274.out 1).trans rfl,(bc BK276.out 0).trans rfl,(bc BK276.out 1).trans rfl,(bc BK277.out 0).trans rfl,(bc BK277.out 1).trans rfl,(bc BK278.out 0).trans rfl,(bc BK278.out 1).trans rfl⟩ (fun hHeld => ?_);clear hK K;refine norm_ (a':=?_) ?_ ?_
              rotate_left
              · show Act.put _ (some 93) _ = _
                simp only [Act.put,q1,q2,q3,i64_w,i32_w]
                rfl
              refine one_ (i:=18) (N:=some 97) #[true,true,true,true,true,true,true,true,true,true,true,true,true,true,true,true,true,true,true,false,false] rfl rfl (one_of HT_.out (by kernel_rfl)) (by decide) (fun K hK => ?_);refine goes_ Try.func12 (by kernel_rfl) rfl #[.agg #[.int .i64 (wrap64 (a0_0 + (wrap64 (2 * (wrap64 (a3)))))),.int .i64 (wrap64 (a0_1 + (wrap64 (2 * (wrap64 (a4))))))],.agg #[.int .i64 (wrap64 (a1_0 + (wrap64 (2 * (wrap64 (a3)))))),.int .i64 (wrap64 (a1_1 + (wrap64 (2 * (wrap64 (a4))))))],.agg #[.int .i64 (wrap64 (a2_0 + (wrap64 (2 * (wrap64 (a3)))))),.int .i64 (wrap64 (a2_1 + (wrap64 (2 * (wrap64 (a4))))))]] (by rfl) rfl rfl (by (try simp only [List.map_toArray,List.map_cons,List.map_nil]);first|done|rfl|(simp only [List.length_drop,List.length_take];rfl)) ?_
              with_reducible refine (curve_Bend.calls (wrap64 (a0_0 + (wrap64 (2 * (wrap64 (a3)))))) (wrap64 (a0_1 + (wrap64 (2 * (wrap64 (a4)))))) (wrap64 (a1_0 + (wrap64 (2 * (wrap64 (a3)))))) (wrap64 (a1_1 + (wrap64 (2 * (wrap64 (a4)))))) (wrap64 (a2_0 + (wrap64 (2 * (wrap64 (a3)))))) (wrap64 (a2_1 + (wrap64 (2 * (wrap64 (a4)))))) t289 _ A93.out).mono ?_
              rintro e w98 ⟨rfl,hb⟩
              refine ⟨_,rfl,?_⟩;replace HO284:=am (Kd.R_below (by (with_reducible repeat (first|apply Kd.R_alloc|apply Kd.R_drewN|apply Kd.R_drew));exact HO284.out) hb);replace HO287:=am (Kd.R_below (by (with_reducible repeat (first|apply Kd.R_alloc|apply Kd.R_drewN|apply Kd.R_drew));exact HO287.out) hb);replace BK272:=am (bw (by exact BK272.out) hb);replace BK273:=am (bw (by exact BK273.out) hb);replace BK274:=am (bw (by exact BK274.out) hb);replace BK275:=am (bw (by exact BK275.out) hb);replace BK276:=am (bw (by exact BK276.out) hb);replace BK277:=am (bw (by exact BK277.out) hb);replace BK278:=am (bw (by exact BK278.out) hb);replace HB:=am (ss (by repeat (first|(with_reducible first|exact HB.out|apply sa|apply sn|apply sd|refine sy ?_ (by assumption))|exact HB.out)) hb);(try clear hb);(try clear hb2);(try clear hk);(try clear hi);refine hK.out _ _ ⟨(bc BK272.out 0).trans rfl,(bc BK272.out 1).trans rfl,(bc BK273.out 0).trans rfl,(bc BK273.out 1).trans rfl,(bc BK274.out 0).trans rfl,(bc BK274.out 1).trans rfl,(bc BK276.out 0).trans rfl,(bc BK276.out 1).trans rfl,(bc BK277.out 0).trans rfl,(bc BK277.out 1).trans rfl,(bc BK278.out 0).trans rfl,(bc BK278.out 1).trans rfl⟩ (fun hHeld => ?_);clear hK K;refine norm_ (a':=?_) ?_ ?_
              rotate_left
              · show Act.put _ (some 97) _ = _
                simp only [Act.put,q1,q2,q3,i64_w,i32_w]
                rfl
              refine pure_ (i:=19) (N:=some 98) (v:=?_) (a':=?_) #[true,true,true,true,true,true,true,true,true,true,true,true,true,true,true,true,true,true,true,true,false] rfl rfl (any_of HT_.out (by kernel_rfl)) (fun _ _ _ h => h) (Or.inl ⟨by rfl,?_⟩) ?_ ?_
              rotate_left
              · intro w'
                go_simp
                with_reducible rfl
              rotate_left
              · simp only [Act.put,q1,q2,q3,i64_w,i32_w]
                rfl
              refine pure_ (i:=20) (N:=some 99) (v:=?_) (a':=?_) #[true,true,true,true,true,true,true,true,true,true,true,true,true,true,true,true,true,true,true,true,true] rfl rfl (any_of HT_.out (by kernel_rfl)) (fun _ _ _ h => h) (Or.inl ⟨by rfl,?_⟩) ?_ ?_
              rotate_left
              · intro w'
                go_simp
                with_reducible rfl
              rotate_left
              · simp only [Act.put,q1,q2,q3,i64_w,i32_w]
                rfl
              refine done_ (done_of HT_.out (by kernel_rfl)) ?_
              try go_wp2
              go_meet
              case rel => exact ⟨_,((t288 != t289)),(by first|rfl|(simp;done)|(simp [*];done)),H',⟨by have:=HJ5.out;first|omega|exact Nat.le_refl _⟩,⟨by (with_reducible repeat (first|apply Kd.R_alloc|apply Kd.R_drewN|apply Kd.R_drew));exact Kd.R_mono HO284.out (fun _ hk => ⟨hk.2,⟨hk.1.1.1.1.1.1.1.2,⟨hk.1.1.1.1.1.1.2,⟨hk.1.1.1.1.1.2,⟨hk.1.1.1.1.2,⟨hk.1.1.1.2,⟨hk.1.1.2,hk.1.2⟩⟩⟩⟩⟩⟩⟩)⟩,⟨by (with_reducible repeat (first|apply Kd.R_alloc|apply Kd.R_drewN|apply Kd.R_drew));exact Kd.R_mono HO287.out (fun _ hk => ⟨hk.1.1.1.1.1.1.1.2,⟨hk.1.1.1.1.1.1.2,⟨hk.1.1.1.1.1.2,⟨hk.1.1.1.1.2,⟨hk.1.1.1.2,⟨hk.1.1.2,⟨hk.1.2,hk.2⟩⟩⟩⟩⟩⟩⟩)⟩,⟨by exact BK272.out⟩,⟨by exact BK273.out⟩,⟨by exact BK274.out⟩,⟨by exact BK275.out⟩,⟨by exact BK276.out⟩,⟨by exact BK277.out⟩,⟨by exact BK278.out⟩,⟨by repeat (first|(with_reducible first|exact HB.out|apply sa|apply sn|apply sd|refine sy ?_ (by assumption))|exact HB.out)⟩⟩
          · rw [if_neg c87] at H
            have c87b0 : ((t282.length : Int) == (t285.length : Int)) = false:=beq_eq_false_iff_ne.mpr c87;have c87b1 : ((t282.length : Int) != (t285.length : Int)) = true:=bne_iff_ne.mpr c87
            have c87b2 : (t282.length == t285.length) = false:=by first|simpa using c87|(simp at c87 ⊢;omega)
            (first|rw [c87b0]|(simp only [i64_w,i32_w];rw [c87b0])|skip)
            have H':=am H;clear H
            try go_wp2
            replace HO284:=am (Kd.R_drew HO284.out);replace HO287:=am (Kd.R_drew HO287.out);replace BK272:=am (bd BK272.out);replace BK273:=am (bd BK273.out);replace BK274:=am (bd BK274.out);replace BK275:=am (bd BK275.out);replace BK276:=am (bd BK276.out);replace BK277:=am (bd BK277.out);replace BK278:=am (bd BK278.out);replace HB:=am (sd HB.out);obtain ⟨Ao100,co100,eo100⟩:=Kd.R_slice HO284.out
            (first|subst eo100|(injection eo100 with f1_ f2_ f3_;have f4_:=f1_.symm;have f5_:=f3_.symm;clear f1_ f2_ f3_;subst f4_;subst f5_))
            obtain ⟨Ao101,co101,eo101⟩:=Kd.R_slice HO287.out
            (first|subst eo101|(injection eo101 with f1_ f2_ f3_;have f4_:=f1_.symm;have f5_:=f3_.symm;clear f1_ f2_ f3_;subst f4_;subst f5_))
            refine start_ (n:=21) (S:=fun w' => True) (ds:=[]) #[false,false,false,false,false,false,false,false,false,false,false,false,false,false,false,false,false,false,false,false,false] (by kernel_rfl) rfl rfl trivial (fun hHeld => ?_);refine with_tabW celluloidlaw16_CurveShifts.tab6 celluloidlaw16_CurveShifts.bits6 (fun HT_ HW_ => ?_);generalize w86.drew = w99 at HO284 HO287 BK272 BK273 BK274 BK275 BK276 BK277 BK278 HB hHeld ⊢;refine pure_ (i:=0) (N:=some 79) (v:=?_) (a':=?_) #[true,false,false,false,false,false,false,false,false,false,false,false,false,false,false,false,false,false,false,false,false] rfl rfl (any_of HT_.out (by kernel_rfl)) (fun _ _ _ h => h) (Or.inl ⟨by rfl,?_⟩) ?_ ?_
            rotate_left
            · intro w'
              go_simp
              with_reducible rfl
            rotate_left
            · simp only [Act.put,q1,q2,q3,i64_w,i32_w]
              rfl
            refine pure_ (i:=1) (N:=some 80) (v:=?_) (a':=?_) #[true,true,false,false,false,false,false,false,false,false,false,false,false,false,false,false,false,false,false,false,false] rfl rfl (any_of HT_.out (by kernel_rfl)) (fun _ _ _ h => h) (Or.inl ⟨by rfl,?_⟩) ?_ ?_
            rotate_left
            · intro w'
              go_simp
              with_reducible rfl
            rotate_left
            · simp only [Act.put,q1,q2,q3,i64_w,i32_w]
              rfl
            refine pure_ (i:=2) (N:=some 81) (v:=?_) (a':=?_) #[true,true,true,false,false,false,false,false,false,false,false,false,false,false,false,false,false,false,false,false,false] rfl rfl (any_of HT_.out (by kernel_rfl)) (fun _ _ _ h => h) (Or.inl ⟨by rfl,?_⟩) ?_ ?_
            rotate_left
            · intro w'
              go_simp
              with_reducible rfl
            rotate_left
            · simp only [Act.put,q1,q2,q3,i64_w,i32_w]
              rfl
            refine pure_ (i:=3) (N:=some 82) (v:=?_) (a':=?_) #[true,true,true,true,false,false,false,false,false,false,false,false,false,false,false,false,false,false,false,false,false] rfl rfl (any_of HT_.out (by kernel_rfl)) (fun _ _ _ h => h) (Or.inl ⟨by rfl,?_⟩) ?_ ?_
            rotate_left
            · intro w'
              go_simp
              with_reducible rfl
            rotate_left
            · simp only [Act.put,q1,q2,q3,i64_w,i32_w]
              rfl
            refine pure_ (i:=4) (N:=some 83) (v:=?_) (a':=?_) #[true,true,true,true,true,false,false,false,false,false,false,false,false,false,false,false,false,false,false,false,false] rfl rfl (any_of HT_.out (by kernel_rfl)) (fun _ _ _ h => h) (Or.inl ⟨by rfl,?_⟩) ?_ ?_
            rotate_left
            · intro w'
              go_simp
              with_reducible rfl
            rotate_left
            · simp only [Act.put,q1,q2,q3,i64_w,i32_w]
              rfl
            refine pure_ (i:=5) (N:=some 84) (v:=?_) (a':=?_) #[true,true,true,true,true,true,false,false,false,false,false,false,false,false,false,false,false,false,false,false,false] rfl rfl (any_of HT_.out (by kernel_rfl)) (fun _ _ _ h => h) (Or.inl ⟨by rfl,?_⟩) ?_ ?_
            rotate_left
            · intro w'
              go_simp
              with_reducible rfl
            rotate_left
            · simp only [Act.put,q1,q2,q3,i64_w,i32_w]
              rfl
            refine pure_ (i:=6) (N:=some 85) (v:=undef) (a':=?_) #[true,true,true,true,true,true,true,false,false,false,false,false,false,false,false,false,false,false,false,false,false] rfl rfl (any_of HT_.out (by kernel_rfl)) (fun _ _ _ h => h) (Or.inr ⟨by rfl,rfl⟩) ?_ ?_
            rotate_left
            · simp only [Act.put,q1,q2,q3,i64_w,i32_w]
              rfl
            refine pure_ (i:=7) (N:=some 86) (v:=undef) (a':=?_) #[true,true,true,true,true,true,true,true,false,false,false,false,false,false,false,false,false,false,false,false,false] rfl rfl (any_of HT_.out (by kernel_rfl)) (fun _ _ _ h => h) (Or.inr ⟨by rfl,rfl⟩) ?_ ?_
            rotate_left
            · simp only [Act.put,q1,q2,q3,i64_w,i32_w]
              rfl
            refine pure_ (i:=8) (N:=some 87) (v:=undef) (a':=?_) #[true,true,true,true,true,true,true,true,true,false,false,false,false,false,false,false,false,false,false,false,false] rfl rfl (any_of HT_.out (by kernel_rfl)) (fun _ _ _ h => h) (Or.inr ⟨by rfl,rfl⟩) ?_ ?_
            rotate_left
            · simp only [Act.put,q1,q2,q3,i64_w,i32_w]
              rfl
            refine pure_ (i:=9) (N:=some 88) (v:=?_) (a':=?_) #[true,true,true,true,true,true,true,true,true,true,false,false,false,false,false,false,false,false,false,false,false] rfl rfl (any_of HT_.out (by kernel_rfl)) (fun _ _ _ h => h) (Or.inl ⟨by rfl,?_⟩) ?_ ?_
            rotate_left
            · intro w'
              go_simp
              with_reducible rfl
            rotate_left
            · simp only [Act.put,q1,q2,q3,i64_w,i32_w]
              rfl
            refine pure_ (i:=10) (N:=some 89) (v:=?_) (a':=?_) #[true,true,true,true,true,true,true,true,true,true,true,false,false,false,false,false,false,false,false,false,false] rfl rfl (any_of HT_.out (by kernel_rfl)) (fun _ _ _ h => h) (Or.inl ⟨by rfl,?_⟩) ?_ ?_
            rotate_left
            · intro w'
              go_simp
              with_reducible rfl
            rotate_left
            · simp only [Act.put,q1,q2,q3,i64_w,i32_w]
              rfl
            refine pure_ (i:=11) (N:=some 90) (v:=undef) (a':=?_) #[true,true,true,true,true,true,true,true,true,true,true,true,false,false,false,false,false,false,false,false,false] rfl rfl (any_of HT_.out (by kernel_rfl)) (fun _ _ _ h => h) (Or.inr ⟨by rfl,rfl⟩) ?_ ?_
            rotate_left
            · simp only [Act.put,q1,q2,q3,i64_w,i32_w]
              rfl
            refine pure_ (i:=12) (N:=some 91) (v:=undef) (a':=?_) #[true,true,true,true,true,true,true,true,true,true,true,true,true,false,false,false,false,false,false,false,false] rfl rfl (any_of HT_.out (by kernel_rfl)) (fun _ _ _ h => h) (Or.inr ⟨by rfl,rfl⟩) ?_ ?_
            rotate_left
            · simp only [Act.put,q1,q2,q3,i64_w,i32_w]
              rfl
            refine pure_ (i:=13) (N:=some 92) (v:=undef) (a':=?_) #[true,true,true,true,true,true,true,true,true,true,true,true,true,true,false,false,false,false,false,false,false] rfl rfl (any_of HT_.out (by kernel_rfl)) (fun _ _ _ h => h) (Or.inr ⟨by rfl,rfl⟩) ?_ ?_
            rotate_left
            · simp only [Act.put,q1,q2,q3,i64_w,i32_w]
              rfl
            refine pure_ (i:=14) (N:=some 93) (v:=undef) (a':=?_) #[true,true,true,true,true,true,true,true,true,true,true,true,true,true,true,false,false,false,false,false,false] rfl rfl (any_of HT_.out (by kernel_rfl)) (fun _ _ _ h => h) (Or.inr ⟨by rfl,rfl⟩) ?_ ?_
            rotate_left
            · simp only [Act.put,q1,q2,q3,i64_w,i32_w]
              rfl
            refine pure_ (i:=15) (N:=some 94) (v:=undef) (a':=?_) #[true,true,true,true,true,true,true,true,true,true,true,true,true,true,true,true,false,false,false,false,false] rfl rfl (any_of HT_.out (by kernel_rfl)) (fun _ _ _ h => h) (Or.inr ⟨by rfl,rfl⟩) ?_ ?_
            rotate_left
            · simp only [Act.put,q1,q2,q3,i64_w,i32_w]
              rfl
            refine pure_ (i:=16) (N:=some 95) (v:=undef) (a':=?_) #[true,true,true,true,true,true,true,true,true,true,true,true,true,true,true,true,true,false,false,false,false] rfl rfl (any_of HT_.out (by kernel_rfl)) (fun _ _ _ h => h) (Or.inr ⟨by rfl,rfl⟩) ?_ ?_
            rotate_left
            · simp only [Act.put,q1,q2,q3,i64_w,i32_w]
              rfl
            refine pure_ (i:=17) (N:=some 96) (v:=undef) (a':=?_) #[true,true,true,true,true,true,true,true,true,true,true,true,true,true,true,true,true,true,false,false,false] rfl rfl (any_of HT_.out (by kernel_rfl)) (fun _ _ _ h => h) (Or.inr ⟨by rfl,rfl⟩) ?_ ?_
            rotate_left
            · simp only [Act.put,q1,q2,q3,i64_w,i32_w]
              rfl
            refine pure_ (i:=18) (N:=some 97) (v:=undef) (a':=?_) #[true,true,true,true,true,true,true,true,true,true,true,true,true,true,true,true,true,true,true,false,false] rfl rfl (any_of HT_.out (by kernel_rfl)) (fun _ _ _ h => h) (Or.inr ⟨by rfl,rfl⟩) ?_ ?_
            rotate_left
            · simp only [Act.put,q1,q2,q3,i64_w,i32_w]
              rfl
            refine pure_ (i:=19) (N:=some 98) (v:=undef) (a':=?_) #[true,true,true,true,true,true,true,true,true,true,true,true,true,true,true,true,true,true,true,true,false] rfl rfl (any_of HT_.out (by kernel_rfl)) (fun _ _ _ h => h) (Or.inr ⟨by rfl,rfl⟩) ?_ ?_
            rotate_left
            · simp only [Act.put,q1,q2,q3,i64_w,i32_w]
              rfl
            refine pure_ (i:=20) (N:=some 99) (v:=?_) (a':=?_) #[true,true,true,true,true,true,true,true,true,true,true,true,true,true,true,true,true,true,true,true,true] rfl rfl (any_of HT_.out (by kernel_rfl)) (fun _ _ _ h => h) (Or.inl ⟨by rfl,?_⟩) ?_ ?_
            rotate_left
            · intro w'
              go_simp
              with_reducible rfl
            rotate_left
            · simp only [Act.put,q1,q2,q3,i64_w,i32_w]
              rfl
            refine done_ (done_of HT_.out (by kernel_rfl)) ?_
            try go_wp2
            go_meet
            case rel => exact ⟨_,(true),(by first|rfl|(simp;done)|(simp [*];done)),H',⟨by have:=HJ5.out;first|omega|exact Nat.le_refl _⟩,⟨by (with_reducible repeat (first|apply Kd.R_alloc|apply Kd.R_drewN|apply Kd.R_drew));exact Kd.R_mono HO284.out (fun _ hk => ⟨hk.2,⟨hk.1.1.1.1.1.1.1.2,⟨hk.1.1.1.1.1.1.2,⟨hk.1.1.1.1.1.2,⟨hk.1.1.1.1.2,⟨hk.1.1.1.2,⟨hk.1.1.2,hk.1.2⟩⟩⟩⟩⟩⟩⟩)⟩,⟨by (with_reducible repeat (first|apply Kd.R_alloc|apply Kd.R_drewN|apply Kd.R_drew));exact Kd.R_mono HO287.out (fun _ hk => ⟨hk.1.1.1.1.1.1.1.2,⟨hk.1.1.1.1.1.1.2,⟨hk.1.1.1.1.1.2,⟨hk.1.1.1.1.2,⟨hk.1.1.1.2,⟨hk.1.1.2,⟨hk.1.2,hk.2⟩⟩⟩⟩⟩⟩⟩)⟩,⟨by exact BK272.out⟩,⟨by exact BK273.out⟩,⟨by exact BK274.out⟩,⟨by exact BK275.out⟩,⟨by exact BK276.out⟩,⟨by exact BK277.out⟩,⟨by exact BK278.out⟩,⟨by repeat (first|(with_reducible first|exact HB.out|apply sa|apply sn|apply sd|refine sy ?_ (by assumption))|exact HB.out)⟩⟩
        case rest =>
          clear HC83
          try clear c1
          try clear p2
          try clear p6
          try clear c8
          try clear c12
          try clear p64
          try clear c87
          try clear c87b0
          try clear c87b1
          try clear c87b2
          try clear c88
          try clear c88b0
          try clear c88b1
          try clear c88b2
          obtain ⟨kq,x99_82,rfl,HA,HJ82,HO_15,HO_16,BK272,BK273,BK274,BK275,BK276,BK277,BK278,HB⟩:=hcut
          cases kq with
          | zero => exact absurd HA.out (by simp [celluloidlaw16_CurveShifts.j1])
          | succ kj82 =>
            have H:=HA.out;clear HA;simp only [celluloidlaw16_CurveShifts.j1] at H
            by_cases c102 : x99_82 = true
            · subst c102
              have H1 : (some false) = some r:=by rw [if_pos rfl] at H;exact H
              clear H;have H:=H1;clear H1;obtain rfl:=Option.some.inj H
              go_wp2
              go_ret
              exact ⟨by first|rfl|(simp [errW_none,errW_some] <;> rfl)|(simp [*,errW_none,errW_some] <;> rfl),by repeat (first|(with_reducible first|exact HB.out|apply sa|apply sn|apply sd|refine sy ?_ (by assumption))|exact HB.out)⟩
            · replace c102:=Bool.eq_false_iff.mpr c102
              subst c102
              have H1 : (celluloidlaw16_CurveShifts.l0 kj82 t282 t285 (t282.length : Int) 0 (wrap64 (2 * (wrap64 (a3)))) (wrap64 (2 * (wrap64 (a4))))) = some r:=by rw [if_neg (show ¬ (false = true) by decide)] at H;exact H
              clear H;have H:=H1;clear H1;have H':=am H;clear H;obtain ⟨Ao103,co103,eo103⟩:=Kd.R_slice HO_15.out;subst eo103
              go_wp2
              go_loopg [102] kj82 (fun kq v102 w' => ∃ (x102_3 : Int),v102 = .int .i64 x102_3 ∧ Aside0 (celluloidlaw16_CurveShifts.l0 kq t282 t285 (t282.length : Int) x102_3 (wrap64 (2 * (wrap64 (a3)))) (wrap64 (2 * (wrap64 (a4)))) = some r) ∧ Aside0 (kq ≤ kj82) ∧ Aside0 (Kd.R k23 23 w' w.heap.size (fun k_ => some k_ ≠ (v286 : Value).ownBlock ∧ k_ ≠ gb272 ∧ k_ ≠ gb273 ∧ k_ ≠ gb274 ∧ k_ ≠ gb275 ∧ k_ ≠ gb276 ∧ k_ ≠ gb277 ∧ k_ ≠ gb278) (.slice Ao103 t282.length co103) t282) ∧ Aside0 (Kd.R k23 23 w' w.heap.size (fun k_ => some k_ ≠ ((.slice Ao103 t282.length co103) : Value).ownBlock ∧ k_ ≠ gb272 ∧ k_ ≠ gb273 ∧ k_ ≠ gb274 ∧ k_ ≠ gb275 ∧ k_ ≠ gb276 ∧ k_ ≠ gb277 ∧ k_ ≠ gb278) v286 t285) ∧ Aside0 (w'.heap[gb272]? = some (.cells #[.int .i64 a0_0,.int .i64 a0_1] 23 (0,0))) ∧ Aside0 (w'.heap[gb273]? = some (.cells #[.int .i64 a1_0,.int .i64 a1_1] 23 (0,0))) ∧ Aside0 (w'.heap[gb274]? = some (.cells #[.int .i64 a2_0,.int .i64 a2_1] 23 (0,0))) ∧ Aside0 (w'.heap[gb275]? = some (.cells #[.int .i64 (wrap64 (2 * (wrap64 (a3)))),.int .i64 (wrap64 (2 * (wrap64 (a4))))] 23 (0,0))) ∧ Aside0 (w'.heap[gb276]? = some (.cells #[.int .i64 (wrap64 (a0_0 + (wrap64 (2 * (wrap64 (a3)))))),.int .i64 (wrap64 (a0_1 + (wrap64 (2 * (wrap64 (a4))))))] 23 (0,0))) ∧ Aside0 (w'.heap[gb277]? = some (.cells #[.int .i64 (wrap64 (a1_0 + (wrap64 (2 * (wrap64 (a3)))))),.int .i64 (wrap64 (a1_1 + (wrap64 (2 * (wrap64 (a4))))))] 23 (0,0))) ∧ Aside0 (w'.heap[gb278]? = some (.cells #[.int .i64 (wrap64 (a2_0 + (wrap64 (2 * (wrap64 (a3)))))),.int .i64 (wrap64 (a2_1 + (wrap64 (2 * (wrap64 (a4))))))] 23 (0,0))) ∧ Aside0 (Below w.heap.size w w'))
              case atStart => exact ⟨(0),(by first|rfl|(simp;done)|(simp [*];done)),H',⟨Nat.le_refl _⟩,⟨by (with_reducible repeat (first|apply Kd.R_alloc|apply Kd.R_drewN|apply Kd.R_drew));exact HO_15.out⟩,⟨by (with_reducible repeat (first|apply Kd.R_alloc|apply Kd.R_drewN|apply Kd.R_drew));exact HO_16.out⟩,⟨by exact BK272.out⟩,⟨by exact BK273.out⟩,⟨by exact BK274.out⟩,⟨by exact BK275.out⟩,⟨by exact BK276.out⟩,⟨by exact BK277.out⟩,⟨by exact BK278.out⟩,⟨by repeat (first|(with_reducible first|exact HB.out|apply sa|apply sn|apply sd|refine sy ?_ (by assumption))|exact HB.out)⟩⟩
              case round =>
                clear H'
                try clear c1
                try clear p2
                try clear p6
                try clear c8
                try clear c10
                try clear c12
                try clear p64
                try clear c87
                try clear c87b0
                try clear c87b1
                try clear c87b2
                try clear c88
                try clear c88b0
                try clear c88b1
                try clear c88b2
                try clear c102
                try clear p2
                try clear p6
                try clear p64
                obtain ⟨x102_3,rfl,HA,HK3,HO_15,HO_16,BK272,BK273,BK274,BK275,BK276,BK277,BK278,HB⟩:=hrel
                cases gk with
                | zero => exact absurd HA.out (by simp [celluloidlaw16_CurveShifts.l0])
                | succ k3 =>
                  have H:=HA.out;clear HA;simp only [celluloidlaw16_CurveShifts.l0] at H
                  by_cases c104 : x102_3 < (t282.length : Int)
                  · rw [if_pos c104] at H
                    have c104b0 : decide (x102_3 < (t282.length : Int)) = true:=decide_eq_true c104;clear c104
                    by_cases c105 : 0 ≤ x102_3
                    · rw [if_pos c105] at H
                      have c105b0 : decide (0 ≤ x102_3) = true:=decide_eq_true c105;clear c105
                      by_cases c106 : x102_3 < (t285.length : Int)
                      · rw [if_pos c106] at H
                        have c106b0 : decide (x102_3 < (t285.length : Int)) = true:=decide_eq_true c106;clear c106
                        by_cases c107 : x102_3 < (t282.length : Int)
                        · rw [if_pos c107] at H
                          have c107b0 : decide (x102_3 < (t282.length : Int)) = true:=decide_eq_true c107;clear c107
                          by_cases c108 : ((rd_T23 t285 x102_3).f0) = (wrap64 (((rd_T23 t282 x102_3).f0) + (wrap64 (2 * (wrap64 (a3))))))
                          · rw [if_pos c108] at H
                            have c108b0 : (((rd_T23 t285 x102_3).f0) == (wrap64 (((rd_T23 t282 x102_3).f0) + (wrap64 (2 * (wrap64 (a3))))))) = true:=beq_iff_eq.mpr c108;have c108b1 : (((rd_T23 t285 x102_3).f0) != (wrap64 (((rd_T23 t282 x102_3).f0) + (wrap64 (2 * (wrap64 (a3))))))) = false:=bne_eq_false_iff_eq.mpr c108;clear c108
                            by_cases c109 : ((rd_T23 t285 x102_3).f1) = (wrap64 (((rd_T23 t282 x102_3).f1) + (wrap64 (2 * (wrap64 (a4))))))
                            · rw [if_pos c109] at H
                              have c109b0 : (((rd_T23 t285 x102_3).f1) == (wrap64 (((rd_T23 t282 x102_3).f1) + (wrap64 (2 * (wrap64 (a4))))))) = true:=beq_iff_eq.mpr c109;have c109b1 : (((rd_T23 t285 x102_3).f1) != (wrap64 (((rd_T23 t282 x102_3).f1) + (wrap64 (2 * (wrap64 (a4))))))) = false:=bne_eq_false_iff_eq.mpr c109;clear c109;have H':=am H;clear H
                              try go_wp2
                              replace HO_15:=am (Kd.R_drew HO_15.out);replace HO_16:=am (Kd.R_drew HO_16.out);replace BK272:=am (bd BK272.out);replace BK273:=am (bd BK273.out);replace BK274:=am (bd BK274.out);replace BK275:=am (bd BK275.out);replace BK276:=am (bd BK276.out);replace BK277:=am (bd BK277.out);replace BK278:=am (bd BK278.out);replace HB:=am (sd HB.out);obtain ⟨Ao111,co111,eo111⟩:=Kd.R_slice HO_16.out
                              (first|subst eo111|(injection eo111 with f1_ f2_ f3_;have f4_:=f1_.symm;have f5_:=f3_.symm;clear f1_ f2_ f3_;subst f4_;subst f5_))
                              have p290 : 0 ≤ (x102_3 : Int):=of_decide_eq_true (by first|(with_reducible assumption)|assumption);have q290 : x102_3 < (t285.length : Int):=of_decide_eq_true (by first|(with_reducible assumption)|assumption);obtain ⟨ad290,e290,hx290_0,hx290_1⟩:=at_T23 (Kd.R_reads' HO_16.out).2.2 x102_3 p290 q290
                              cases e290
                              replace p290:=eq_true p290;replace q290:=eq_true q290;have p291 : 0 ≤ (x102_3 : Int):=of_decide_eq_true (by first|(with_reducible assumption)|assumption);have q291 : x102_3 < (t282.length : Int):=of_decide_eq_true (by first|(with_reducible assumption)|assumption);obtain ⟨ad291,e291,hx291_0,hx291_1⟩:=at_T23 (Kd.R_reads' HO_15.out).2.2 x102_3 p291 q291
                              cases e291
                              replace p291:=eq_true p291;replace q291:=eq_true q291;have p292 : 0 ≤ (x102_3 : Int):=of_decide_eq_true (by first|(with_reducible assumption)|assumption);have q292 : x102_3 < (t285.length : Int):=of_decide_eq_true (by first|(with_reducible assumption)|assumption);obtain ⟨ad292,e292,hx292_0,hx292_1⟩:=at_T23 (Kd.R_reads' HO_16.out).2.2 x102_3 p292 q292;obtain rfl : ad290 = ad292:=(by injection e292);replace p292:=eq_true p292;replace q292:=eq_true q292;have p293 : 0 ≤ (x102_3 : Int):=of_decide_eq_true (by first|(with_reducible assumption)|assumption);have q293 : x102_3 < (t282.length : Int):=of_decide_eq_true (by first|(with_reducible assumption)|assumption);obtain ⟨ad293,e293,hx293_0,hx293_1⟩:=at_T23 (Kd.R_reads' HO_15.out).2.2 x102_3 p293 q293;obtain rfl : ad291 = ad293:=(by injection e293);replace p293:=eq_true p293;replace q293:=eq_true q293;refine start_ (n:=30) (S:=fun w' => w'.cell? ⟨gb275,0,none⟩ = some (.int .i64 (wrap64 (2 * (wrap64 (a3))))) ∧ w'.cell? ⟨gb275,1,none⟩ = some (.int .i64 (wrap64 (2 * (wrap64 (a4))))) ∧ w'.cell? (ad290.add ((x102_3).toNat * 2)) = some (.int .i64 ((rd_T23 t285 x102_3).f0)) ∧ w'.cell? ⟨(ad290.add ((x102_3).toNat * 2)).block,(ad290.add ((x102_3).toNat * 2)).off + 1,none⟩ = some (.int .i64 ((rd_T23 t285 x102_3).f1)) ∧ w'.cell? (ad291.add ((x102_3).toNat * 2)) = some (.int .i64 ((rd_T23 t282 x102_3).f0)) ∧ w'.cell? ⟨(ad291.add ((x102_3).toNat * 2)).block,(ad291.add ((x102_3).toNat * 2)).off + 1,none⟩ = some (.int .i64 ((rd_T23 t282 x102_3).f1)) ∧ w'.cell? (ad290.add ((x102_3).toNat * 2)) = some (.int .i64 ((rd_T23 t285 x102_3).f0)) ∧ w'.cell? ⟨(ad290.add ((x102_3).toNat * 2)).block,(ad290.add ((x102_3).toNat * 2)).off + 1,none⟩ = some (.int .i64 ((rd_T23 t285 x102_3).f1)) ∧ w'.cell? (ad291.add ((x102_3).toNat * 2)) = some (.int .i64 ((rd_T23 t282 x102_3).f0)) ∧ w'.cell? ⟨(ad291.add ((x102_3).toNat * 2)).block,(ad291.add ((x102_3).toNat * 2)).off + 1,none⟩ = some (.int .i64 ((rd_T23 t282 x102_3).f1))) (ds:=[]) #[false,false,false,false,false,false,false,false,false,false,false,false,false,false,false,false,false,false,false,false,false,false,false,false,false,false,false,false,false,false] (by kernel_rfl) rfl rfl ⟨(bc BK275.out 0).trans rfl,(bc BK275.out 1).trans rfl,hx290_0,hx290_1,hx291_0,hx291_1,hx292_0,hx292_1,hx293_0,hx293_1⟩ (fun hHeld => ?_);refine with_tabW celluloidlaw16_CurveShifts.tab11 celluloidlaw16_CurveShifts.bits11 (fun HT_ HW_ => ?_);generalize wr.drew = w110 at HO_15 HO_16 BK272 BK273 BK274 BK275 BK276 BK277 BK278 HB hx290_0 hx290_1 hx291_0 hx291_1 hx292_0 hx292_1 hx293_0 hx293_1 hHeld ⊢;refine pure_ (i:=0) (N:=some 105) (v:=?_) (a':=?_) #[true,false,false,false,false,false,false,false,false,false,false,false,false,false,false,false,false,false,false,false,false,false,false,false,false,false,false,false,false,false] rfl rfl (any_of HT_.out (by kernel_rfl)) (fun _ _ _ h => h) (Or.inl ⟨by rfl,?_⟩) ?_ ?_
                              rotate_left
                              · intro w'
                                go_simp
                                with_reducible rfl
                              rotate_left
                              · simp only [Act.put,q1,q2,q3,i64_w,i32_w]
                                rfl
                              refine pure_ (i:=1) (N:=some 106) (v:=?_) (a':=?_) #[true,true,false,false,false,false,false,false,false,false,false,false,false,false,false,false,false,false,false,false,false,false,false,false,false,false,false,false,false,false] rfl rfl (any_of HT_.out (by kernel_rfl)) (fun _ _ _ h => h) (Or.inl ⟨by rfl,?_⟩) ?_ ?_
                              rotate_left
                              · intro w'
                                go_simp
                                with_reducible rfl
                              rotate_left
                              · simp only [Act.put,q1,q2,q3,i64_w,i32_w]
                                rfl
                              refine pure_ (i:=2) (N:=some 107) (v:=?_) (a':=?_) #[true,true,true,false,false,false,false,false,false,false,false,false,false,false,false,false,false,false,false,false,false,false,false,false,false,false,false,false,false,false] rfl rfl (any_of HT_.out (by kernel_rfl)) (fun _ _ _ h => h) (Or.inl ⟨by rfl,?_⟩) ?_ ?_
                              rotate_left
                              · intro w'
                                go_simp
                                with_reducible rfl
                              rotate_left
                              · simp only [Act.put,q1,q2,q3,i64_w,i32_w]
                                rfl
                              refine pure_ (i:=3) (N:=some 108) (v:=?_) (a':=?_) #[true,true,true,true,false,false,false,false,false,false,false,false,false,false,false,false,false,false,false,false,false,false,false,false,false,false,false,false,false,false] rfl rfl (any_of HT_.out (by kernel_rfl)) (fun _ _ _ h => h) (Or.inl ⟨by rfl,?_⟩) ?_ ?_
                              rotate_left
                              · intro w'
                                go_simp
                                with_reducible rfl
                              rotate_left
                              · simp only [Act.put,q1,q2,q3,i64_w,i32_w]
                                rfl
                              refine pure_ (i:=5) (N:=some 110) (v:=?_) (a':=?_) #[true,true,true,true,false,true,false,false,false,false,false,false,false,false,false,false,false,false,false,false,false,false,false,false,false,false,false,false,false,false] rfl rfl (any_of HT_.out (by kernel_rfl)) (fun _ _ _ h => h) (Or.inl ⟨by rfl,?_⟩) ?_ ?_
                              rotate_left
                              · intro w'
                                go_simp
                                with_reducible rfl
                              rotate_left
                              · simp only [Act.put,q1,q2,q3,i64_w,i32_w]
                                rfl
                              refine pure_ (i:=6) (N:=some 111) (v:=?_) (a':=?_) #[true,true,true,true,false,true,true,false,false,false,false,false,false,false,false,false,false,false,false,false,false,false,false,false,false,false,false,false,false,false] rfl rfl (any_of HT_.out (by kernel_rfl)) (fun _ _ _ h => h) (Or.inl ⟨by rfl,?_⟩) ?_ ?_
                              rotate_left
                              · intro w'
                                go_simp
                                with_reducible rfl
                              rotate_left
                              · simp only [Act.put,q1,q2,q3,i64_w,i32_w]
                                rfl
                              refine pure_ (i:=7) (N:=some 112) (v:=?_) (a':=?_) #[true,true,true,true,false,true,true,true,false,false,false,false,false,false,false,false,false,false,false,false,false,false,false,false,false,false,false,false,false,false] rfl rfl (any_of HT_.out (by kernel_rfl)) (fun _ _ _ h => h) (Or.inl ⟨by rfl,?_⟩) ?_ ?_
                              rotate_left
                              · intro w'
                                go_simp
                                with_reducible rfl
                              rotate_left
                              · simp only [Act.put,q1,q2,q3,i64_w,i32_w]
                                rfl
                              refine pure_ (i:=8) (N:=some 113) (v:=?_) (a':=?_) #[true,true,true,true,false,true,true,true,true,false,false,false,false,false,false,false,false,false,false,false,false,false,false,false,false,false,false,false,false,false] rfl rfl (any_of HT_.out (by kernel_rfl)) (fun _ _ _ h => h) (Or.inl ⟨by rfl,?_⟩) ?_ ?_
                              rotate_left
                              · intro w'
                                go_simp
                                with_reducible rfl
                              rotate_left
                              · simp only [Act.put,q1,q2,q3,i64_w,i32_w]
                                rfl
                              refine pure_ (i:=10) (N:=some 115) (v:=?_) (a':=?_) #[true,true,true,true,false,true,true,true,true,false,true,false,false,false,false,false,false,false,false,false,false,false,false,false,false,false,false,false,false,false] rfl rfl (any_of HT_.out (by kernel_rfl)) (fun _ _ _ h => h) (Or.inl ⟨by rfl,?_⟩) ?_ ?_
                              rotate_left
                              · intro w'
                                go_simp
                                with_reducible rfl
                              rotate_left
                              · simp only [Act.put,q1,q2,q3,i64_w,i32_w]
                                rfl
                              refine take_ (i:=4) (N:=some 109) (v:=?_) (a':=?_) #[true,true,true,true,true,true,true,true,true,false,true,false,false,false,false,false,false,false,false,false,false,false,false,false,false,false,false,false,false,false] rfl rfl (take_ofW HT_.out HW_.out (by kernel_rfl)) (fun _ _ _ h => h) (Or.inl ⟨by rfl,?_⟩) hHeld ?_ ?_
                              rotate_left
                              · rintro w' ⟨s0,s1,s2,s3,s4,s5,s6,s7,s8,s9⟩
                                go_simp
                                with_reducible rfl
                              rotate_left
                              · simp only [Act.put,q1,q2,q3,i64_w,i32_w]
                                rfl
                              refine take_ (i:=9) (N:=some 114) (v:=?_) (a':=?_) #[true,true,true,true,true,true,true,true,true,true,true,false,false,false,false,false,false,false,false,false,false,false,false,false,false,false,false,false,false,false] rfl rfl (take_ofW HT_.out HW_.out (by kernel_rfl)) (fun _ _ _ h => h) (Or.inl ⟨by rfl,?_⟩) hHeld ?_ ?_
                              rotate_left
                              · rintro w' ⟨s0,s1,s2,s3,s4,s5,s6,s7,s8,s9⟩
                                go_simp
                                with_reducible rfl
                              rotate_left
                              · simp only [Act.put,q1,q2,q3,i64_w,i32_w]
                                rfl
                              refine take_ (i:=11) (N:=some 116) (v:=?_) (a':=?_) #[true,true,true,true,true,true,true,true,true,true,true,true,false,false,false,false,false,false,false,false,false,false,false,false,false,false,false,false,false,false] rfl rfl (take_ofW HT_.out HW_.out (by kernel_rfl)) (fun _ _ _ h => h) (Or.inl ⟨by rfl,?_⟩) hHeld ?_ ?_
                              rotate_left
                              · rintro w' ⟨s0,s1,s2,s3,s4,s5,s6,s7,s8,s9⟩
                                go_simp
                                with_reducible rfl
                              rotate_left
                              · simp only [Act.put,q1,q2,q3,i64_w,i32_w]
                                rfl
                              refine pure_ (i:=12) (N:=some 117) (v:=?_) (a':=?_) #[true,true,true,true,true,true,true,true,true,true,true,true,true,false,false,false,false,false,false,false,false,false,false,false,false,false,false,false,false,false] rfl rfl (any_of HT_.out (by kernel_rfl)) (fun _ _ _ h => h) (Or.inl ⟨by rfl,?_⟩) ?_ ?_
                              rotate_left
                              · intro w'
                                go_simp
                                with_reducible rfl
                              rotate_left
                              · simp only [Act.put,q1,q2,q3,i64_w,i32_w]
                                rfl
                              refine pure_ (i:=13) (N:=some 118) (v:=?_) (a':=?_) #[true,true,true,true,true,true,true,true,true,true,true,true,true,true,false,false,false,false,false,false,false,false,false,false,false,false,false,false,false,false] rfl rfl (any_of HT_.out (by kernel_rfl)) (fun _ _ _ h => h) (Or.inl ⟨by rfl,?_⟩) ?_ ?_
                              rotate_left
                              · intro w'
                                go_simp
                                with_reducible rfl
                              rotate_left
                              · simp only [Act.put,q1,q2,q3,i64_w,i32_w]
                                rfl
                              refine pure_ (i:=14) (N:=some 119) (v:=?_) (a':=?_) #[true,true,true,true,true,true,true,true,true,true,true,true,true,true,true,false,false,false,false,false,false,false,false,false,false,false,false,false,false,false] rfl rfl (any_of HT_.out (by kernel_rfl)) (fun _ _ _ h => h) (Or.inl ⟨by rfl,?_⟩) ?_ ?_
                              rotate_left
                              · intro w'
                                go_simp
                                with_reducible rfl
                              rotate_left
                              · simp only [Act.put,q1,q2,q3,i64_w,i32_w]
                                rfl
                              refine pure_ (i:=15) (N:=some 120) (v:=?_) (a':=?_) #[true,true,true,true,true,true,true,true,true,true,true,true,true,true,true,true,false,false,false,false,false,false,false,false,false,false,false,false,false,false] rfl rfl (any_of HT_.out (by kernel_rfl)) (fun _ _ _ h => h) (Or.inl ⟨by rfl,?_⟩) ?_ ?_
                              rotate_left
                              · intro w'
                                go_simp
                                with_reducible rfl
                              rotate_left
                              · simp only [Act.put,q1,q2,q3,i64_w,i32_w]
                                rfl
                              refine pure_ (i:=16) (N:=some 121) (v:=?_) (a':=?_) #[true,true,true,true,true,true,true,true,true,true,true,true,true,true,true,true,true,false,false,false,false,false,false,false,false,false,false,false,false,false] rfl rfl (any_of HT_.out (by kernel_rfl)) (fun _ _ _ h => h) (Or.inl ⟨by rfl,?_⟩) ?_ ?_
                              rotate_left
                              · intro w'
                                go_simp
                                with_reducible rfl
                              rotate_left
                              · simp only [Act.put,q1,q2,q3,i64_w,i32_w]
                                rfl
                              refine pure_ (i:=17) (N:=some 122) (v:=?_) (a':=?_) #[true,true,true,true,true,true,true,true,true,true,true,true,true,true,true,true,true,true,false,false,false,false,false,false,false,false,false,false,false,false] rfl rfl (any_of HT_.out (by kernel_rfl)) (fun _ _ _ h => h) (Or.inl ⟨by rfl,?_⟩) ?_ ?_
                              rotate_left
                              · intro w'
                                go_simp
                                with_reducible rfl
                              rotate_left
                              · simp only [Act.put,q1,q2,q3,i64_w,i32_w]
                                rfl
                              refine pure_ (i:=18) (N:=some 123) (v:=?_) (a':=?_) #[true,true,true,true,true,true,true,true,true,true,true,true,true,true,true,true,true,true,true,false,false,false,false,false,false,false,false,false,false,false] rfl rfl (any_of HT_.out (by kernel_rfl)) (fun _ _ _ h => h) (Or.inl ⟨by rfl,?_⟩) ?_ ?_
                              rotate_left
                              · intro w'
                                go_simp
                                with_reducible rfl
                              rotate_left
                              · simp only [Act.put,q1,q2,q3,i64_w,i32_w]
                                rfl
                              refine pure_ (i:=20) (N:=some 125) (v:=?_) (a':=?_) #[true,true,true,true,true,true,true,true,true,true,true,true,true,true,true,true,true,true,true,false,true,false,false,false,false,false,false,false,false,false] rfl rfl (any_of HT_.out (by kernel_rfl)) (fun _ _ _ h => h) (Or.inl ⟨by rfl,?_⟩) ?_ ?_
                              rotate_left
                              · intro w'
                                go_simp
                                with_reducible rfl
                              rotate_left
                              · simp only [Act.put,q1,q2,q3,i64_w,i32_w]
                                rfl
                              refine pure_ (i:=21) (N:=some 126) (v:=?_) (a':=?_) #[true,true,true,true,true,true,true,true,true,true,true,true,true,true,true,true,true,true,true,false,true,true,false,false,false,false,false,false,false,false] rfl rfl (any_of HT_.out (by kernel_rfl)) (fun _ _ _ h => h) (Or.inl ⟨by rfl,?_⟩) ?_ ?_
                              rotate_left
                              · intro w'
                                go_simp
                                with_reducible rfl
                              rotate_left
                              · simp only [Act.put,q1,q2,q3,i64_w,i32_w]
                                rfl
                              refine pure_ (i:=22) (N:=some 127) (v:=?_) (a':=?_) #[true,true,true,true,true,true,true,true,true,true,true,true,true,true,true,true,true,true,true,false,true,true,true,false,false,false,false,false,false,false] rfl rfl (any_of HT_.out (by kernel_rfl)) (fun _ _ _ h => h) (Or.inl ⟨by rfl,?_⟩) ?_ ?_
                              rotate_left
                              · intro w'
                                go_simp
                                with_reducible rfl
                              rotate_left
                              · simp only [Act.put,q1,q2,q3,i64_w,i32_w]
                                rfl
                              refine pure_ (i:=23) (N:=some 128) (v:=?_) (a':=?_) #[true,true,true,true,true,true,true,true,true,true,true,true,true,true,true,true,true,true,true,false,true,true,true,true,false,false,false,false,false,false] rfl rfl (any_of HT_.out (by kernel_rfl)) (fun _ _ _ h => h) (Or.inl ⟨by rfl,?_⟩) ?_ ?_
                              rotate_left
                              · intro w'
                                go_simp
                                with_reducible rfl
                              rotate_left
                              · simp only [Act.put,q1,q2,q3,i64_w,i32_w]
                                rfl
                              refine pure_ (i:=25) (N:=some 130) (v:=?_) (a':=?_) #[true,true,true,true,true,true,true,true,true,true,true,true,true,true,true,true,true,true,true,false,true,true,true,true,false,true,false,false,false,false] rfl rfl (any_of HT_.out (by kernel_rfl)) (fun _ _ _ h => h) (Or.inl ⟨by rfl,?_⟩) ?_ ?_
                              rotate_left
                              · intro w'
                                go_simp
                                with_reducible rfl
                              rotate_left
                              · simp only [Act.put,q1,q2,q3,i64_w,i32_w]
                                rfl
                              refine take_ (i:=19) (N:=some 124) (v:=?_) (a':=?_) #[true,true,true,true,true,true,true,true,true,true,true,true,true,true,true,true,true,true,true,true,true,true,true,true,false,true,false,false,false,false] rfl rfl (take_ofW HT_.out HW_.out (by kernel_rfl)) (fun _ _ _ h => h) (Or.inl ⟨by rfl,?_⟩) hHeld ?_ ?_
                              rotate_left
                              · rintro w' ⟨s0,s1,s2,s3,s4,s5,s6,s7,s8,s9⟩
                                go_simp
                                with_reducible rfl
                              rotate_left
                              · simp only [Act.put,q1,q2,q3,i64_w,i32_w]
                                rfl
                              refine take_ (i:=24) (N:=some 129) (v:=?_) (a':=?_) #[true,true,true,true,true,true,true,true,true,true,true,true,true,true,true,true,true,true,true,true,true,true,true,true,true,true,false,false,false,false] rfl rfl (take_ofW HT_.out HW_.out (by kernel_rfl)) (fun _ _ _ h => h) (Or.inl ⟨by rfl,?_⟩) hHeld ?_ ?_
                              rotate_left
                              · rintro w' ⟨s0,s1,s2,s3,s4,s5,s6,s7,s8,s9⟩
                                go_simp
                                with_reducible rfl
                              rotate_left
                              · simp only [Act.put,q1,q2,q3,i64_w,i32_w]
                                rfl
                              refine take_ (i:=26) (N:=some 131) (v:=?_) (a':=?_) #[true,true,true,true,true,true,true,true,true,true,true,true,true,true,true,true,true,true,true,true,true,true,true,true,true,true,true,false,false,false] rfl rfl (take_ofW HT_.out HW_.out (by kernel_rfl)) (fun _ _ _ h => h) (Or.inl ⟨by rfl,?_⟩) hHeld ?_ ?_
                              rotate_left
                              · rintro w' ⟨s0,s1,s2,s3,s4,s5,s6,s7,s8,s9⟩
                                go_simp
                                with_reducible rfl
                              rotate_left
                              · simp only [Act.put,q1,q2,q3,i64_w,i32_w]
                                rfl
                              refine pure_ (i:=27) (N:=some 132) (v:=?_) (a':=?_) #[true,true,true,true,true,true,true,true,true,true,true,true,true,true,true,true,true,true,true,true,true,true,true,true,true,true,true,true,false,false] rfl rfl (any_of HT_.out (by kernel_rfl)) (fun _ _ _ h => h) (Or.inl ⟨by rfl,?_⟩) ?_ ?_
                              rotate_left
                              · intro w'
                                go_simp
                                with_reducible rfl
                              rotate_left
                              · simp only [Act.put,q1,q2,q3,i64_w,i32_w]
                                rfl
                              refine pure_ (i:=28) (N:=some 133) (v:=?_) (a':=?_) #[true,true,true,true,true,true,true,true,true,true,true,true,true,true,true,true,true,true,true,true,true,true,true,true,true,true,true,true,true,false] rfl rfl (any_of HT_.out (by kernel_rfl)) (fun _ _ _ h => h) (Or.inl ⟨by rfl,?_⟩) ?_ ?_
                              rotate_left
                              · intro w'
                                go_simp
                                with_reducible rfl
                              rotate_left
                              · simp only [Act.put,q1,q2,q3,i64_w,i32_w]
                                rfl
                              refine pure_ (i:=29) (N:=some 134) (v:=?_) (a':=?_) #[true,true,true,true,true,true,true,true,true,true,true,true,true,true,true,true,true,true,true,true,true,true,true,true,true,true,true,true,true,true] rfl rfl (any_of HT_.out (by kernel_rfl)) (fun _ _ _ h => h) (Or.inl ⟨by rfl,?_⟩) ?_ ?_
                              rotate_left
                              · intro w'
                                go_simp
                                with_reducible rfl
                              rotate_left
                              · simp only [Act.put,q1,q2,q3,i64_w,i32_w]
                                rfl
                              refine done_ (done_of HT_.out (by kernel_rfl)) ?_
                              try go_wp2
                              go_roundg k3
                              case measure => have:=HJ5.out;have:=HJ82.out;have:=HK3.out;omega
                              case rel => exact ⟨(wrap64 (x102_3 + 1)),(by first|rfl|(simp;done)|(simp [*];done)),H',⟨by have:=HJ5.out;have:=HJ82.out;have:=HK3.out;omega⟩,⟨by (with_reducible repeat (first|apply Kd.R_alloc|apply Kd.R_drewN|apply Kd.R_drew));exact HO_15.out⟩,⟨by (with_reducible repeat (first|apply Kd.R_alloc|apply Kd.R_drewN|apply Kd.R_drew));exact HO_16.out⟩,⟨by exact BK272.out⟩,⟨by exact BK273.out⟩,⟨by exact BK274.out⟩,⟨by exact BK275.out⟩,⟨by exact BK276.out⟩,⟨by exact BK277.out⟩,⟨by exact BK278.out⟩,⟨by repeat (first|(with_reducible first|exact HB.out|apply sa|apply sn|apply sd|refine sy ?_ (by assumption))|exact HB.out)⟩⟩
                            · rw [if_neg c109] at H
                              have c109b0 : (((rd_T23 t285 x102_3).f1) == (wrap64 (((rd_T23 t282 x102_3).f1) + (wrap64 (2 * (wrap64 (a4))))))) = false:=beq_eq_false_iff_ne.mpr c109;have c109b1 : (((rd_T23 t285 x102_3).f1) != (wrap64 (((rd_T23 t282 x102_3).f1) + (wrap64 (2 * (wrap64 (a4))))))) = true:=bne_iff_ne.mpr c109;obtain rfl:=Option.some.inj H
                              try go_wp2
                              replace HO_15:=am (Kd.R_drew HO_15.out);replace HO_16:=am (Kd.R_drew HO_16.out);replace BK272:=am (bd BK272.out);replace BK273:=am (bd BK273.out);replace BK274:=am (bd BK274.out);replace BK275:=am (bd BK275.out);replace BK276:=am (bd BK276.out);replace BK277:=am (bd BK277.out);replace BK278:=am (bd BK278.out);replace HB:=am (sd HB.out);obtain ⟨Ao113,co113,eo113⟩:=Kd.R_slice HO_16.out
                              (first|subst eo113|(injection eo113 with f1_ f2_ f3_;have f4_:=f1_.symm;have f5_:=f3_.symm;clear f1_ f2_ f3_;subst f4_;subst f5_))
                              have p290 : 0 ≤ (x102_3 : Int):=of_decide_eq_true (by first|(with_reducible assumption)|assumption);have q290 : x102_3 < (t285.length : Int):=of_decide_eq_true (by first|(with_reducible assumption)|assumption);obtain ⟨ad290,e290,hx290_0,hx290_1⟩:=at_T23 (Kd.R_reads' HO_16.out).2.2 x102_3 p290 q290
                              cases e290
                              replace p290:=eq_true p290;replace q290:=eq_true q290;have p291 : 0 ≤ (x102_3 : Int):=of_decide_eq_true (by first|(with_reducible assumption)|assumption);have q291 : x102_3 < (t282.length : Int):=of_decide_eq_true (by first|(with_reducible assumption)|assumption);obtain ⟨ad291,e291,hx291_0,hx291_1⟩:=at_T23 (Kd.R_reads' HO_15.out).2.2 x102_3 p291 q291
                              cases e291
                              replace p291:=eq_true p291;replace q291:=eq_true q291;have p292 : 0 ≤ (x102_3 : Int):=of_decide_eq_true (by first|(with_reducible assumption)|assumption);have q292 : x102_3 < (t285.length : Int):=of_decide_eq_true (by first|(with_reducible assumption)|assumption);obtain ⟨ad292,e292,hx292_0,hx292_1⟩:=at_T23 (Kd.R_reads' HO_16.out).2.2 x102_3 p292 q292;obtain rfl : ad290 = ad292:=(by injection e292);replace p292:=eq_true p292;replace q292:=eq_true q292;have p293 : 0 ≤ (x102_3 : Int):=of_decide_eq_true (by first|(with_reducible assumption)|assumption);have q293 : x102_3 < (t282.length : Int):=of_decide_eq_true (by first|(with_reducible assumption)|assumption);obtain ⟨ad293,e293,hx293_0,hx293_1⟩:=at_T23 (Kd.R_reads' HO_15.out).2.2 x102_3 p293 q293;obtain rfl : ad291 = ad293:=(by injection e293);replace p293:=eq_true p293;replace q293:=eq_true q293;refine start_ (n:=30) (S:=fun w' => w'.cell? ⟨gb275,0,none⟩ = some (.int .i64 (wrap64 (2 * (wrap64 (a3))))) ∧ w'.cell? ⟨gb275,1,none⟩ = some (.int .i64 (wrap64 (2 * (wrap64 (a4))))) ∧ w'.cell? (ad290.add ((x102_3).toNat * 2)) = some (.int .i64 ((rd_T23 t285 x102_3).f0)) ∧ w'.cell? ⟨(ad290.add ((x102_3).toNat * 2)).block,(ad290.add ((x102_3).toNat * 2)).off + 1,none⟩ = some (.int .i64 ((rd_T23 t285 x102_3).f1)) ∧ w'.cell? (ad291.add ((x102_3).toNat * 2)) = some (.int .i64 ((rd_T23 t282 x102_3).f0)) ∧ w'.cell? ⟨(ad291.add ((x102_3).toNat * 2)).block,(ad291.add ((x102_3).toNat * 2)).off + 1,none⟩ = some (.int .i64 ((rd_T23 t282 x102_3).f1)) ∧ w'.cell? (ad290.add ((x102_3).toNat * 2)) = some (.int .i64 ((rd_T23 t285 x102_3).f0)) ∧ w'.cell? ⟨(ad290.add ((x102_3).toNat * 2)).block,(ad290.add ((x102_3).toNat * 2)).off + 1,none⟩ = some (.int .i64 ((rd_T23 t285 x102_3).f1)) ∧ w'.cell? (ad291.add ((x102_3).toNat * 2)) = some (.int .i64 ((rd_T23 t282 x102_3).f0)) ∧ w'.cell? ⟨(ad291.add ((x102_3).toNat * 2)).block,(ad291.add ((x102_3).toNat * 2)).off + 1,none⟩ = some (.int .i64 ((rd_T23 t282 x102_3).f1))) (ds:=[]) #[false,false,false,false,false,false,false,false,false,false,false,false,false,false,false,false,false,false,false,false,false,false,false,false,false,false,false,false,false,false] (by kernel_rfl) rfl rfl ⟨(bc BK275.out 0).trans rfl,(bc BK275.out 1).trans rfl,hx290_0,hx290_1,hx291_0,hx291_1,hx292_0,hx292_1,hx293_0,hx293_1⟩ (fun hHeld => ?_);refine with_tabW celluloidlaw16_CurveShifts.tab11 celluloidlaw16_CurveShifts.bits11 (fun HT_ HW_ => ?_);generalize wr.drew = w112 at HO_15 HO_16 BK272 BK273 BK274 BK275 BK276 BK277 BK278 HB hx290_0 hx290_1 hx291_0 hx291_1 hx292_0 hx292_1 hx293_0 hx293_1 hHeld ⊢;refine pure_ (i:=0) (N:=some 105) (v:=?_) (a':=?_) #[true,false,false,false,false,false,false,false,false,false,false,false,false,false,false,false,false,false,false,false,false,false,false,false,false,false,false,false,false,false] rfl rfl (any_of HT_.out (by kernel_rfl)) (fun _ _ _ h => h) (Or.inl ⟨by rfl,?_⟩) ?_ ?_
                              rotate_left
                              · intro w'
                                go_simp
                                with_reducible rfl
                              rotate_left
                              · simp only [Act.put,q1,q2,q3,i64_w,i32_w]
                                rfl
                              refine pure_ (i:=1) (N:=some 106) (v:=?_) (a':=?_) #[true,true,false,false,false,false,false,false,false,false,false,false,false,false,false,false,false,false,false,false,false,false,false,false,false,false,false,false,false,false] rfl rfl (any_of HT_.out (by kernel_rfl)) (fun _ _ _ h => h) (Or.inl ⟨by rfl,?_⟩) ?_ ?_
                              rotate_left
                              · intro w'
                                go_simp
                                with_reducible rfl
                              rotate_left
                              · simp only [Act.put,q1,q2,q3,i64_w,i32_w]
                                rfl
                              refine pure_ (i:=2) (N:=some 107) (v:=?_) (a':=?_) #[true,true,true,false,false,false,false,false,false,false,false,false,false,false,false,false,false,false,false,false,false,false,false,false,false,false,false,false,false,false] rfl rfl (any_of HT_.out (by kernel_rfl)) (fun _ _ _ h => h) (Or.inl ⟨by rfl,?_⟩) ?_ ?_
                              rotate_left
                              · intro w'
                                go_simp
                                with_reducible rfl
                              rotate_left
                              · simp only [Act.put,q1,q2,q3,i64_w,i32_w]
                                rfl
                              refine pure_ (i:=3) (N:=some 108) (v:=?_) (a':=?_) #[true,true,true,true,false,false,false,false,false,false,false,false,false,false,false,false,false,false,false,false,false,false,false,false,false,false,false,false,false,false] rfl rfl (any_of HT_.out (by kernel_rfl)) (fun _ _ _ h => h) (Or.inl ⟨by rfl,?_⟩) ?_ ?_
                              rotate_left
                              · intro w'
                                go_simp
                                with_reducible rfl
                              rotate_left
                              · simp only [Act.put,q1,q2,q3,i64_w,i32_w]
                                rfl
                              refine pure_ (i:=5) (N:=some 110) (v:=?_) (a':=?_) #[true,true,true,true,false,true,false,false,false,false,false,false,false,false,false,false,false,false,false,false,false,false,false,false,false,false,false,false,false,false] rfl rfl (any_of HT_.out (by kernel_rfl)) (fun _ _ _ h => h) (Or.inl ⟨by rfl,?_⟩) ?_ ?_
                              rotate_left
                              · intro w'
                                go_simp
                                with_reducible rfl
                              rotate_left
                              · simp only [Act.put,q1,q2,q3,i64_w,i32_w]
                                rfl
                              refine pure_ (i:=6) (N:=some 111) (v:=?_) (a':=?_) #[true,true,true,true,false,true,true,false,false,false,false,false,false,false,false,false,false,false,false,false,false,false,false,false,false,false,false,false,false,false] rfl rfl (any_of HT_.out (by kernel_rfl)) (fun _ _ _ h => h) (Or.inl ⟨by rfl,?_⟩) ?_ ?_
                              rotate_left
                              · intro w'
                                go_simp
                                with_reducible rfl
                              rotate_left
                              · simp only [Act.put,q1,q2,q3,i64_w,i32_w]
                                rfl
                              refine pure_ (i:=7) (N:=some 112) (v:=?_) (a':=?_) #[true,true,true,true,false,true,true,true,false,false,false,false,false,false,false,false,false,false,false,false,false,false,false,false,false,false,false,false,false,false] rfl rfl (any_of HT_.out (by kernel_rfl)) (fun _ _ _ h => h) (Or.inl ⟨by rfl,?_⟩) ?_ ?_
                              rotate_left
                              · intro w'
                                go_simp
                                with_reducible rfl
                              rotate_left
                              · simp only [Act.put,q1,q2,q3,i64_w,i32_w]
                                rfl
                              refine pure_ (i:=8) (N:=some 113) (v:=?_) (a':=?_) #[true,true,true,true,false,true,true,true,true,false,false,false,false,false,false,false,false,false,false,false,false,false,false,false,false,false,false,false,false,false] rfl rfl (any_of HT_.out (by kernel_rfl)) (fun _ _ _ h => h) (Or.inl ⟨by rfl,?_⟩) ?_ ?_
                              rotate_left
                              · intro w'
                                go_simp
                                with_reducible rfl
                              rotate_left
                              · simp only [Act.put,q1,q2,q3,i64_w,i32_w]
                                rfl
                              refine pure_ (i:=10) (N:=some 115) (v:=?_) (a':=?_) #[true,true,true,true,false,true,true,true,true,false,true,false,false,false,false,false,false,false,false,false,false,false,false,false,false,false,false,false,false,false] rfl rfl (any_of HT_.out (by kernel_rfl)) (fun _ _ _ h => h) (Or.inl ⟨by rfl,?_⟩) ?_ ?_
                              rotate_left
                              · intro w'
                                go_simp
                                with_reducible rfl
                              rotate_left
                              · simp only [Act.put,q1,q2,q3,i64_w,i32_w]
                                rfl
                              refine take_ (i:=4) (N:=some 109) (v:=?_) (a':=?_) #[true,true,true,true,true,true,true,true,true,false,true,false,false,false,false,false,false,false,false,false,false,false,false,false,false,false,false,false,false,false] rfl rfl (take_ofW HT_.out HW_.out (by kernel_rfl)) (fun _ _ _ h => h) (Or.inl ⟨by rfl,?_⟩) hHeld ?_ ?_
                              rotate_left
                              · rintro w' ⟨s0,s1,s2,s3,s4,s5,s6,s7,s8,s9⟩
                                go_simp
                                with_reducible rfl
                              rotate_left
                              · simp only [Act.put,q1,q2,q3,i64_w,i32_w]
                                rfl
                              refine take_ (i:=9) (N:=some 114) (v:=?_) (a':=?_) #[true,true,true,true,true,true,true,true,true,true,true,false,false,false,false,false,false,false,false,false,false,false,false,false,false,false,false,false,false,false] rfl rfl (take_ofW HT_.out HW_.out (by kernel_rfl)) (fun _ _ _ h => h) (Or.inl ⟨by rfl,?_⟩) hHeld ?_ ?_
                              rotate_left
                              · rintro w' ⟨s0,s1,s2,s3,s4,s5,s6,s7,s8,s9⟩
                                go_simp
                                with_reducible rfl
                              rotate_left
                              · simp only [Act.put,q1,q2,q3,i64_w,i32_w]
                                rfl
                              refine take_ (i:=11) (N:=some 116) (v:=?_) (a':=?_) #[true,true,true,true,true,true,true,true,true,true,true,true,false,false,false,false,false,false,false,false,false,false,false,false,false,false,false,false,false,false] rfl rfl (take_ofW HT_.out HW_.out (by kernel_rfl)) (fun _ _ _ h => h) (Or.inl ⟨by rfl,?_⟩) hHeld ?_ ?_
                              rotate_left
                              · rintro w' ⟨s0,s1,s2,s3,s4,s5,s6,s7,s8,s9⟩
                                go_simp
                                with_reducible rfl
                              rotate_left
                              · simp only [Act.put,q1,q2,q3,i64_w,i32_w]
                                rfl
                              refine pure_ (i:=12) (N:=some 117) (v:=?_) (a':=?_) #[true,true,true,true,true,true,true,true,true,true,true,true,true,false,false,false,false,false,false,false,false,false,false,false,false,false,false,false,false,false] rfl rfl (any_of HT_.out (by kernel_rfl)) (fun _ _ _ h => h) (Or.inl ⟨by rfl,?_⟩) ?_ ?_
                              rotate_left
                              · intro w'
                                go_simp
                                with_reducible rfl
                              rotate_left
                              · simp only [Act.put,q1,q2,q3,i64_w,i32_w]
                                rfl
                              refine pure_ (i:=13) (N:=some 118) (v:=?_) (a':=?_) #[true,true,true,true,true,true,true,true,true,true,true,true,true,true,false,false,false,false,false,false,false,false,false,false,false,false,false,false,false,false] rfl rfl (any_of HT_.out (by kernel_rfl)) (fun _ _ _ h => h) (Or.inl ⟨by rfl,?_⟩) ?_ ?_
                              rotate_left
                              · intro w'
                                go_simp
                                with_reducible rfl
                              rotate_left
                              · simp only [Act.put,q1,q2,q3,i64_w,i32_w]
                                rfl
                              refine pure_ (i:=14) (N:=some 119) (v:=?_) (a':=?_) #[true,true,true,true,true,true,true,true,true,true,true,true,true,true,true,false,false,false,false,false,false,false,false,false,false,false,false,false,false,false] rfl rfl (any_of HT_.out (by kernel_rfl)) (fun _ _ _ h => h) (Or.inl ⟨by rfl,?_⟩) ?_ ?_
                              rotate_left
                              · intro w'
                                go_simp
                                with_reducible rfl
                              rotate_left
                              · simp only [Act.put,q1,q2,q3,i64_w,i32_w]
                                rfl
                              refine pure_ (i:=15) (N:=some 120) (v:=?_) (a':=?_) #[true,true,true,true,true,true,true,true,true,true,true,true,true,true,true,true,false,false,false,false,false,false,false,false,false,false,false,false,false,false] rfl rfl (any_of HT_.out (by kernel_rfl)) (fun _ _ _ h => h) (Or.inl ⟨by rfl,?_⟩) ?_ ?_
                              rotate_left
                              · intro w'
                                go_simp
                                with_reducible rfl
                              rotate_left
                              · simp only [Act.put,q1,q2,q3,i64_w,i32_w]
                                rfl
                              refine pure_ (i:=16) (N:=some 121) (v:=?_) (a':=?_) #[true,true,true,true,true,true,true,true,true,true,true,true,true,true,true,true,true,false,false,false,false,false,false,false,false,false,false,false,false,false] rfl rfl (any_of HT_.out (by kernel_rfl)) (fun _ _ _ h => h) (Or.inl ⟨by rfl,?_⟩) ?_ ?_
                              rotate_left
                              · intro w'
                                go_simp
                                with_reducible rfl
                              rotate_left
                              · simp only [Act.put,q1,q2,q3,i64_w,i32_w]
                                rfl
                              refine pure_ (i:=17) (N:=some 122) (v:=?_) (a':=?_) #[true,true,true,true,true,true,true,true,true,true,true,true,true,true,true,true,true,true,false,false,false,false,false,false,false,false,false,false,false,false] rfl rfl (any_of HT_.out (by kernel_rfl)) (fun _ _ _ h => h) (Or.inl ⟨by rfl,?_⟩) ?_ ?_
                              rotate_left
                              · intro w'
                                go_simp
                                with_reducible rfl
                              rotate_left
                              · simp only [Act.put,q1,q2,q3,i64_w,i32_w]
                                rfl
                              refine pure_ (i:=18) (N:=some 123) (v:=?_) (a':=?_) #[true,true,true,true,true,true,true,true,true,true,true,true,true,true,true,true,true,true,true,false,false,false,false,false,false,false,false,false,false,false] rfl rfl (any_of HT_.out (by kernel_rfl)) (fun _ _ _ h => h) (Or.inl ⟨by rfl,?_⟩) ?_ ?_
                              rotate_left
                              · intro w'
                                go_simp
                                with_reducible rfl
                              rotate_left
                              · simp only [Act.put,q1,q2,q3,i64_w,i32_w]
                                rfl
                              refine pure_ (i:=20) (N:=some 125) (v:=?_) (a':=?_) #[true,true,true,true,true,true,true,true,true,true,true,true,true,true,true,true,true,true,true,false,true,false,false,false,false,false,false,false,false,false] rfl rfl (any_of HT_.out (by kernel_rfl)) (fun _ _ _ h => h) (Or.inl ⟨by rfl,?_⟩) ?_ ?_
                              rotate_left
                              · intro w'
                                go_simp
                                with_reducible rfl
                              rotate_left
                              · simp only [Act.put,q1,q2,q3,i64_w,i32_w]
                                rfl
                              refine pure_ (i:=21) (N:=some 126) (v:=?_) (a':=?_) #[true,true,true,true,true,true,true,true,true,true,true,true,true,true,true,true,true,true,true,false,true,true,false,false,false,false,false,false,false,false] rfl rfl (any_of HT_.out (by kernel_rfl)) (fun _ _ _ h => h) (Or.inl ⟨by rfl,?_⟩) ?_ ?_
                              rotate_left
                              · intro w'
                                go_simp
                                with_reducible rfl
                              rotate_left
                              · simp only [Act.put,q1,q2,q3,i64_w,i32_w]
                                rfl
                              refine pure_ (i:=22) (N:=some 127) (v:=?_) (a':=?_) #[true,true,true,true,true,true,true,true,true,true,true,true,true,true,true,true,true,true,true,false,true,true,true,false,false,false,false,false,false,false] rfl rfl (any_of HT_.out (by kernel_rfl)) (fun _ _ _ h => h) (Or.inl ⟨by rfl,?_⟩) ?_ ?_
                              rotate_left
                              · intro w'
                                go_simp
                                with_reducible rfl
                              rotate_left
                              · simp only [Act.put,q1,q2,q3,i64_w,i32_w]
                                rfl
                              refine pure_ (i:=23) (N:=some 128) (v:=?_) (a':=?_) #[true,true,true,true,true,true,true,true,true,true,true,true,true,true,true,true,true,true,true,false,true,true,true,true,false,false,false,false,false,false] rfl rfl (any_of HT_.out (by kernel_rfl)) (fun _ _ _ h => h) (Or.inl ⟨by rfl,?_⟩) ?_ ?_
                              rotate_left
                              · intro w'
                                go_simp
                                with_reducible rfl
                              rotate_left
                              · simp only [Act.put,q1,q2,q3,i64_w,i32_w]
                                rfl
                              refine pure_ (i:=25) (N:=some 130) (v:=?_) (a':=?_) #[true,true,true,true,true,true,true,true,true,true,true,true,true,true,true,true,true,true,true,false,true,true,true,true,false,true,false,false,false,false] rfl rfl (any_of HT_.out (by kernel_rfl)) (fun _ _ _ h => h) (Or.inl ⟨by rfl,?_⟩) ?_ ?_
                              rotate_left
                              · intro w'
                                go_simp
                                with_reducible rfl
                              rotate_left
                              · simp only [Act.put,q1,q2,q3,i64_w,i32_w]
                                rfl
                              refine take_ (i:=19) (N:=some 124) (v:=?_) (a':=?_) #[true,true,true,true,true,true,true,true,true,true,true,true,true,true,true,true,true,true,true,true,true,true,true,true,false,true,false,false,false,false] rfl rfl (take_ofW HT_.out HW_.out (by kernel_rfl)) (fun _ _ _ h => h) (Or.inl ⟨by rfl,?_⟩) hHeld ?_ ?_
                              rotate_left
                              · rintro w' ⟨s0,s1,s2,s3,s4,s5,s6,s7,s8,s9⟩
                                go_simp
                                with_reducible rfl
                              rotate_left
                              · simp only [Act.put,q1,q2,q3,i64_w,i32_w]
                                rfl
                              refine take_ (i:=24) (N:=some 129) (v:=?_) (a':=?_) #[true,true,true,true,true,true,true,true,true,true,true,true,true,true,true,true,true,true,true,true,true,true,true,true,true,true,false,false,false,false] rfl rfl (take_ofW HT_.out HW_.out (by kernel_rfl)) (fun _ _ _ h => h) (Or.inl ⟨by rfl,?_⟩) hHeld ?_ ?_
                              rotate_left
                              · rintro w' ⟨s0,s1,s2,s3,s4,s5,s6,s7,s8,s9⟩
                                go_simp
                                with_reducible rfl
                              rotate_left
                              · simp only [Act.put,q1,q2,q3,i64_w,i32_w]
                                rfl
                              refine take_ (i:=26) (N:=some 131) (v:=?_) (a':=?_) #[true,true,true,true,true,true,true,true,true,true,true,true,true,true,true,true,true,true,true,true,true,true,true,true,true,true,true,false,false,false] rfl rfl (take_ofW HT_.out HW_.out (by kernel_rfl)) (fun _ _ _ h => h) (Or.inl ⟨by rfl,?_⟩) hHeld ?_ ?_
                              rotate_left
                              · rintro w' ⟨s0,s1,s2,s3,s4,s5,s6,s7,s8,s9⟩
                                go_simp
                                with_reducible rfl
                              rotate_left
                              · simp only [Act.put,q1,q2,q3,i64_w,i32_w]
                                rfl
                              refine pure_ (i:=27) (N:=some 132) (v:=?_) (a':=?_) #[true,true,true,true,true,true,true,true,true,true,true,true,true,true,true,true,true,true,true,true,true,true,true,true,true,true,true,true,false,false] rfl rfl (any_of HT_.out (by kernel_rfl)) (fun _ _ _ h => h) (Or.inl ⟨by rfl,?_⟩) ?_ ?_
                              rotate_left
                              · intro w'
                                go_simp
                                with_reducible rfl
                              rotate_left
                              · simp only [Act.put,q1,q2,q3,i64_w,i32_w]
                                rfl
                              refine pure_ (i:=28) (N:=some 133) (v:=?_) (a':=?_) #[true,true,true,true,true,true,true,true,true,true,true,true,true,true,true,true,true,true,true,true,true,true,true,true,true,true,true,true,true,false] rfl rfl (any_of HT_.out (by kernel_rfl)) (fun _ _ _ h => h) (Or.inl ⟨by rfl,?_⟩) ?_ ?_
                              rotate_left
                              · intro w'
                                go_simp
                                with_reducible rfl
                              rotate_left
                              · simp only [Act.put,q1,q2,q3,i64_w,i32_w]
                                rfl
                              refine pure_ (i:=29) (N:=some 134) (v:=?_) (a':=?_) #[true,true,true,true,true,true,true,true,true,true,true,true,true,true,true,true,true,true,true,true,true,true,true,true,true,true,true,true,true,true] rfl rfl (any_of HT_.out (by kernel_rfl)) (fun _ _ _ h => h) (Or.inl ⟨by rfl,?_⟩) ?_ ?_
                              rotate_left
                              · intro w'
                                go_simp
                                with_reducible rfl
                              rotate_left
                              · simp only [Act.put,q1,q2,q3,i64_w,i32_w]
                                rfl
                              refine done_ (done_of HT_.out (by kernel_rfl)) ?_
                              try go_wp2
                              go_ret
                              exact ⟨by first|rfl|(simp [errW_none,errW_some] <;> rfl)|(simp [*,errW_none,errW_some] <;> rfl),by repeat (first|(with_reducible first|exact HB.out|apply sa|apply sn|apply sd|refine sy ?_ (by assumption))|exact HB.out)⟩
                          · rw [if_neg c108] at H
                            have c108b0 : (((rd_T23 t285 x102_3).f0) == (wrap64 (((rd_T23 t282 x102_3).f0) + (wrap64 (2 * (wrap64 (a3))))))) = false:=beq_eq_false_iff_ne.mpr c108;have c108b1 : (((rd_T23 t285 x102_3).f0) != (wrap64 (((rd_T23 t282 x102_3).f0) + (wrap64 (2 * (wrap64 (a3))))))) = true:=bne_iff_ne.mpr c108;obtain rfl:=Option.some.inj H
                            try go_wp2
                            replace HO_15:=am (Kd.R_drew HO_15.out);replace HO_16:=am (Kd.R_drew HO_16.out);replace BK272:=am (bd BK272.out);replace BK273:=am (bd BK273.out);replace BK274:=am (bd BK274.out);replace BK275:=am (bd BK275.out);replace BK276:=am (bd BK276.out);replace BK277:=am (bd BK277.out);replace BK278:=am (bd BK278.out);replace HB:=am (sd HB.out);obtain ⟨Ao115,co115,eo115⟩:=Kd.R_slice HO_16.out
                            (first|subst eo115|(injection eo115 with f1_ f2_ f3_;have f4_:=f1_.symm;have f5_:=f3_.symm;clear f1_ f2_ f3_;subst f4_;subst f5_))
                            have p290 : 0 ≤ (x102_3 : Int):=of_decide_eq_true (by first|(with_reducible assumption)|assumption);have q290 : x102_3 < (t285.length : Int):=of_decide_eq_true (by first|(with_reducible assumption)|assumption);obtain ⟨ad290,e290,hx290_0,hx290_1⟩:=at_T23 (Kd.R_reads' HO_16.out).2.2 x102_3 p290 q290
                            cases e290
                            replace p290:=eq_true p290;replace q290:=eq_true q290;have p291 : 0 ≤ (x102_3 : Int):=of_decide_eq_true (by first|(with_reducible assumption)|assumption);have q291 : x102_3 < (t282.length : Int):=of_decide_eq_true (by first|(with_reducible assumption)|assumption);obtain ⟨ad291,e291,hx291_0,hx291_1⟩:=at_T23 (Kd.R_reads' HO_15.out).2.2 x102_3 p291 q291
                            cases e291
                            replace p291:=eq_true p291;replace q291:=eq_true q291;refine start_ (n:=30) (S:=fun w' => w'.cell? ⟨gb275,0,none⟩ = some (.int .i64 (wrap64 (2 * (wrap64 (a3))))) ∧ w'.cell? ⟨gb275,1,none⟩ = some (.int .i64 (wrap64 (2 * (wrap64 (a4))))) ∧ w'.cell? (ad290.add ((x102_3).toNat * 2)) = some (.int .i64 ((rd_T23 t285 x102_3).f0)) ∧ w'.cell? ⟨(ad290.add ((x102_3).toNat * 2)).block,(ad290.add ((x102_3).toNat * 2)).off + 1,none⟩ = some (.int .i64 ((rd_T23 t285 x102_3).f1)) ∧ w'.cell? (ad291.add ((x102_3).toNat * 2)) = some (.int .i64 ((rd_T23 t282 x102_3).f0)) ∧ w'.cell? ⟨(ad291.add ((x102_3).toNat * 2)).block,(ad291.add ((x102_3).toNat * 2)).off + 1,none⟩ = some (.int .i64 ((rd_T23 t282 x102_3).f1))) (ds:=[]) #[false,false,false,false,false,false,false,false,false,false,false,false,false,false,false,false,false,false,false,false,false,false,false,false,false,false,false,false,false,false] (by kernel_rfl) rfl rfl ⟨(bc BK275.out 0).trans rfl,(bc BK275.out 1).trans rfl,hx290_0,hx290_1,hx291_0,hx291_1⟩ (fun hHeld => ?_);refine with_tabW celluloidlaw16_CurveShifts.tab11 celluloidlaw16_CurveShifts.bits11 (fun HT_ HW_ => ?_);generalize wr.drew = w114 at HO_15 HO_16 BK272 BK273 BK274 BK275 BK276 BK277 BK278 HB hx290_0 hx290_1 hx291_0 hx291_1 hHeld ⊢;refine pure_ (i:=0) (N:=some 105) (v:=?_) (a':=?_) #[true,false,false,false,false,false,false,false,false,false,false,false,false,false,false,false,false,false,false,false,false,false,false,false,false,false,false,false,false,false] rfl rfl (any_of HT_.out (by kernel_rfl)) (fun _ _ _ h => h) (Or.inl ⟨by rfl,?_⟩) ?_ ?_
                            rotate_left
                            · intro w'
                              go_simp
                              with_reducible rfl
                            rotate_left
                            · simp only [Act.put,q1,q2,q3,i64_w,i32_w]
                              rfl
                            refine pure_ (i:=1) (N:=some 106) (v:=?_) (a':=?_) #[true,true,false,false,false,false,false,false,false,false,false,false,false,false,false,false,false,false,false,false,false,false,false,false,false,false,false,false,false,false] rfl rfl (any_of HT_.out (by kernel_rfl)) (fun _ _ _ h => h) (Or.inl ⟨by rfl,?_⟩) ?_ ?_
                            rotate_left
                            · intro w'
                              go_simp
                              with_reducible rfl
                            rotate_left
                            · simp only [Act.put,q1,q2,q3,i64_w,i32_w]
                              rfl
                            refine pure_ (i:=2) (N:=some 107) (v:=?_) (a':=?_) #[true,true,true,false,false,false,false,false,false,false,false,false,false,false,false,false,false,false,false,false,false,false,false,false,false,false,false,false,false,false] rfl rfl (any_of HT_.out (by kernel_rfl)) (fun _ _ _ h => h) (Or.inl ⟨by rfl,?_⟩) ?_ ?_
                            rotate_left
                            · intro w'
                              go_simp
                              with_reducible rfl
                            rotate_left
                            · simp only [Act.put,q1,q2,q3,i64_w,i32_w]
                              rfl
                            refine pure_ (i:=3) (N:=some 108) (v:=?_) (a':=?_) #[true,true,true,true,false,false,false,false,false,false,false,false,false,false,false,false,false,false,false,false,false,false,false,false,false,false,false,false,false,false] rfl rfl (any_of HT_.out (by kernel_rfl)) (fun _ _ _ h => h) (Or.inl ⟨by rfl,?_⟩) ?_ ?_
                            rotate_left
                            · intro w'
                              go_simp
                              with_reducible rfl
                            rotate_left
                            · simp only [Act.put,q1,q2,q3,i64_w,i32_w]
                              rfl
                            refine pure_ (i:=5) (N:=some 110) (v:=?_) (a':=?_) #[true,true,true,true,false,true,false,false,false,false,false,false,false,false,false,false,false,false,false,false,false,false,false,false,false,false,false,false,false,false] rfl rfl (any_of HT_.out (by kernel_rfl)) (fun _ _ _ h => h) (Or.inl ⟨by rfl,?_⟩) ?_ ?_
                            rotate_left
                            · intro w'
                              go_simp
                              with_reducible rfl
                            rotate_left
                            · simp only [Act.put,q1,q2,q3,i64_w,i32_w]
                              rfl
                            refine pure_ (i:=6) (N:=some 111) (v:=?_) (a':=?_) #[true,true,true,true,false,true,true,false,false,false,false,false,false,false,false,false,false,false,false,false,false,false,false,false,false,false,false,false,false,false] rfl rfl (any_of HT_.out (by kernel_rfl)) (fun _ _ _ h => h) (Or.inl ⟨by rfl,?_⟩) ?_ ?_
                            rotate_left
                            · intro w'
                              go_simp
                              with_reducible rfl
                            rotate_left
                            · simp only [Act.put,q1,q2,q3,i64_w,i32_w]
                              rfl
                            refine pure_ (i:=7) (N:=some 112) (v:=?_) (a':=?_) #[true,true,true,true,false,true,true,true,false,false,false,false,false,false,false,false,false,false,false,false,false,false,false,false,false,false,false,false,false,false] rfl rfl (any_of HT_.out (by kernel_rfl)) (fun _ _ _ h => h) (Or.inl ⟨by rfl,?_⟩) ?_ ?_
                            rotate_left
                            · intro w'
                              go_simp
                              with_reducible rfl
                            rotate_left
                            · simp only [Act.put,q1,q2,q3,i64_w,i32_w]
                              rfl
                            refine pure_ (i:=8) (N:=some 113) (v:=?_) (a':=?_) #[true,true,true,true,false,true,true,true,true,false,false,false,false,false,false,false,false,false,false,false,false,false,false,false,false,false,false,false,false,false] rfl rfl (any_of HT_.out (by kernel_rfl)) (fun _ _ _ h => h) (Or.inl ⟨by rfl,?_⟩) ?_ ?_
                            rotate_left
                            · intro w'
                              go_simp
                              with_reducible rfl
                            rotate_left
                            · simp only [Act.put,q1,q2,q3,i64_w,i32_w]
                              rfl
                            refine pure_ (i:=10) (N:=some 115) (v:=?_) (a':=?_) #[true,true,true,true,false,true,true,true,true,false,true,false,false,false,false,false,false,false,false,false,false,false,false,false,false,false,false,false,false,false] rfl rfl (any_of HT_.out (by kernel_rfl)) (fun _ _ _ h => h) (Or.inl ⟨by rfl,?_⟩) ?_ ?_
                            rotate_left
                            · intro w'
                              go_simp
                              with_reducible rfl
                            rotate_left
                            · simp only [Act.put,q1,q2,q3,i64_w,i32_w]
                              rfl
                            refine take_ (i:=4) (N:=some 109) (v:=?_) (a':=?_) #[true,true,true,true,true,true,true,true,true,false,true,false,false,false,false,false,false,false,false,false,false,false,false,false,false,false,false,false,false,false] rfl rfl (take_ofW HT_.out HW_.out (by kernel_rfl)) (fun _ _ _ h => h) (Or.inl ⟨by rfl,?_⟩) hHeld ?_ ?_
                            rotate_left
                            · rintro w' ⟨s0,s1,s2,s3,s4,s5⟩
                              go_simp
                              with_reducible rfl
                            rotate_left
                            · simp only [Act.put,q1,q2,q3,i64_w,i32_w]
                              rfl
                            refine take_ (i:=9) (N:=some 114) (v:=?_) (a':=?_) #[true,true,true,true,true,true,true,true,true,true,true,false,false,false,false,false,false,false,false,false,false,false,false,false,false,false,false,false,false,false] rfl rfl (take_ofW HT_.out HW_.out (by kernel_rfl)) (fun _ _ _ h => h) (Or.inl ⟨by rfl,?_⟩) hHeld ?_ ?_
                            rotate_left
                            · rintro w' ⟨s0,s1,s2,s3,s4,s5⟩
                              go_simp
                              with_reducible rfl
                            rotate_left
                            · simp only [Act.put,q1,q2,q3,i64_w,i32_w]
                              rfl
                            refine take_ (i:=11) (N:=some 116) (v:=?_) (a':=?_) #[true,true,true,true,true,true,true,true,true,true,true,true,false,false,false,false,false,false,false,false,false,false,false,false,false,false,false,false,false,false] rfl rfl (take_ofW HT_.out HW_.out (by kernel_rfl)) (fun _ _ _ h => h) (Or.inl ⟨by rfl,?_⟩) hHeld ?_ ?_
                            rotate_left
                            · rintro w' ⟨s0,s1,s2,s3,s4,s5⟩
                              go_simp
                              with_reducible rfl
                            rotate_left
                            · simp only [Act.put,q1,q2,q3,i64_w,i32_w]
                              rfl
                            refine pure_ (i:=12) (N:=some 117) (v:=?_) (a':=?_) #[true,true,true,true,true,true,true,true,true,true,true,true,true,false,false,false,false,false,false,false,false,false,false,false,false,false,false,false,false,false] rfl rfl (any_of HT_.out (by kernel_rfl)) (fun _ _ _ h => h) (Or.inl ⟨by rfl,?_⟩) ?_ ?_
                            rotate_left
                            · intro w'
                              go_simp
                              with_reducible rfl
                            rotate_left
                            · simp only [Act.put,q1,q2,q3,i64_w,i32_w]
                              rfl
                            refine pure_ (i:=13) (N:=some 118) (v:=?_) (a':=?_) #[true,true,true,true,true,true,true,true,true,true,true,true,true,true,false,false,false,false,false,false,false,false,false,false,false,false,false,false,false,false] rfl rfl (any_of HT_.out (by kernel_rfl)) (fun _ _ _ h => h) (Or.inl ⟨by rfl,?_⟩) ?_ ?_
                            rotate_left
                            · intro w'
                              go_simp
                              with_reducible rfl
                            rotate_left
                            · simp only [Act.put,q1,q2,q3,i64_w,i32_w]
                              rfl
                            refine pure_ (i:=14) (N:=some 119) (v:=?_) (a':=?_) #[true,true,true,true,true,true,true,true,true,true,true,true,true,true,true,false,false,false,false,false,false,false,false,false,false,false,false,false,false,false] rfl rfl (any_of HT_.out (by kernel_rfl)) (fun _ _ _ h => h) (Or.inl ⟨by rfl,?_⟩) ?_ ?_
                            rotate_left
                            · intro w'
                              go_simp
                              with_reducible rfl
                            rotate_left
                            · simp only [Act.put,q1,q2,q3,i64_w,i32_w]
                              rfl
                            refine pure_ (i:=15) (N:=some 120) (v:=undef) (a':=?_) #[true,true,true,true,true,true,true,true,true,true,true,true,true,true,true,true,false,false,false,false,false,false,false,false,false,false,false,false,false,false] rfl rfl (any_of HT_.out (by kernel_rfl)) (fun _ _ _ h => h) (Or.inr ⟨by rfl,rfl⟩) ?_ ?_
                            rotate_left
                            · simp only [Act.put,q1,q2,q3,i64_w,i32_w]
                              rfl
                            refine pure_ (i:=16) (N:=some 121) (v:=undef) (a':=?_) #[true,true,true,true,true,true,true,true,true,true,true,true,true,true,true,true,true,false,false,false,false,false,false,false,false,false,false,false,false,false] rfl rfl (any_of HT_.out (by kernel_rfl)) (fun _ _ _ h => h) (Or.inr ⟨by rfl,rfl⟩) ?_ ?_
                            rotate_left
                            · simp only [Act.put,q1,q2,q3,i64_w,i32_w]
                              rfl
                            refine pure_ (i:=17) (N:=some 122) (v:=undef) (a':=?_) #[true,true,true,true,true,true,true,true,true,true,true,true,true,true,true,true,true,true,false,false,false,false,false,false,false,false,false,false,false,false] rfl rfl (any_of HT_.out (by kernel_rfl)) (fun _ _ _ h => h) (Or.inr ⟨by rfl,rfl⟩) ?_ ?_
                            rotate_left
                            · simp only [Act.put,q1,q2,q3,i64_w,i32_w]
                              rfl
                            refine pure_ (i:=18) (N:=some 123) (v:=undef) (a':=?_) #[true,true,true,true,true,true,true,true,true,true,true,true,true,true,true,true,true,true,true,false,false,false,false,false,false,false,false,false,false,false] rfl rfl (any_of HT_.out (by kernel_rfl)) (fun _ _ _ h => h) (Or.inr ⟨by rfl,rfl⟩) ?_ ?_
                            rotate_left
                            · simp only [Act.put,q1,q2,q3,i64_w,i32_w]
                              rfl
                            refine pure_ (i:=19) (N:=some 124) (v:=undef) (a':=?_) #[true,true,true,true,true,true,true,true,true,true,true,true,true,true,true,true,true,true,true,true,false,false,false,false,false,false,false,false,false,false] rfl rfl (any_of HT_.out (by kernel_rfl)) (fun _ _ _ h => h) (Or.inr ⟨by rfl,rfl⟩) ?_ ?_
                            rotate_left
                            · simp only [Act.put,q1,q2,q3,i64_w,i32_w]
                              rfl
                            refine pure_ (i:=20) (N:=some 125) (v:=undef) (a':=?_) #[true,true,true,true,true,true,true,true,true,true,true,true,true,true,true,true,true,true,true,true,true,false,false,false,false,false,false,false,false,false] rfl rfl (any_of HT_.out (by kernel_rfl)) (fun _ _ _ h => h) (Or.inr ⟨by rfl,rfl⟩) ?_ ?_
                            rotate_left
                            · simp only [Act.put,q1,q2,q3,i64_w,i32_w]
                              rfl
                            refine pure_ (i:=21) (N:=some 126) (v:=undef) (a':=?_) #[true,true,true,true,true,true,true,true,true,true,true,true,true,true,true,true,true,true,true,true,true,true,false,false,false,false,false,false,false,false] rfl rfl (any_of HT_.out (by kernel_rfl)) (fun _ _ _ h => h) (Or.inr ⟨by rfl,rfl⟩) ?_ ?_
                            rotate_left
                            · simp only [Act.put,q1,q2,q3,i64_w,i32_w]
                              rfl
                            refine pure_ (i:=22) (N:=some 127) (v:=undef) (a':=?_) #[true,true,true,true,true,true,true,true,true,true,true,true,true,true,true,true,true,true,true,true,true,true,true,false,false,false,false,false,false,false] rfl rfl (any_of HT_.out (by kernel_rfl)) (fun _ _ _ h => h) (Or.inr ⟨by rfl,rfl⟩) ?_ ?_
                            rotate_left
                            · simp only [Act.put,q1,q2,q3,i64_w,i32_w]
                              rfl
                            refine pure_ (i:=23) (N:=some 128) (v:=undef) (a':=?_) #[true,true,true,true,true,true,true,true,true,true,true,true,true,true,true,true,true,true,true,true,true,true,true,true,false,false,false,false,false,false] rfl rfl (any_of HT_.out (by kernel_rfl)) (fun _ _ _ h => h) (Or.inr ⟨by rfl,rfl⟩) ?_ ?_
                            rotate_left
                            · simp only [Act.put,q1,q2,q3,i64_w,i32_w]
                              rfl
                            refine pure_ (i:=24) (N:=some 129) (v:=undef) (a':=?_) #[true,true,true,true,true,true,true,true,true,true,true,true,true,true,true,true,true,true,true,true,true,true,true,true,true,false,false,false,false,false] rfl rfl (any_of HT_.out (by kernel_rfl)) (fun _ _ _ h => h) (Or.inr ⟨by rfl,rfl⟩) ?_ ?_
                            rotate_left
                            · simp only [Act.put,q1,q2,q3,i64_w,i32_w]
                              rfl
                            refine pure_ (i:=25) (N:=some 130) (v:=undef) (a':=?_) #[true,true,true,true,true,true,true,true,true,true,true,true,true,true,true,true,true,true,true,true,true,true,true,true,true,true,false,false,false,false] rfl rfl (any_of HT_.out (by kernel_rfl)) (fun _ _ _ h => h) (Or.inr ⟨by rfl,rfl⟩) ?_ ?_
                            rotate_left
                            · simp only [Act.put,q1,q2,q3,i64_w,i32_w]
                              rfl
                            refine pure_ (i:=26) (N:=some 131) (v:=undef) (a':=?_) #[true,true,true,true,true,true,true,true,true,true,true,true,true,true,true,true,true,true,true,true,true,true,true,true,true,true,true,false,false,false] rfl rfl (any_of HT_.out (by kernel_rfl)) (fun _ _ _ h => h) (Or.inr ⟨by rfl,rfl⟩) ?_ ?_
                            rotate_left
                            · simp only [Act.put,q1,q2,q3,i64_w,i32_w]
                              rfl
                            refine pure_ (i:=27) (N:=some 132) (v:=undef) (a':=?_) #[true,true,true,true,true,true,true,true,true,true,true,true,true,true,true,true,true,true,true,true,true,true,true,true,true,true,true,true,false,false] rfl rfl (any_of HT_.out (by kernel_rfl)) (fun _ _ _ h => h) (Or.inr ⟨by rfl,rfl⟩) ?_ ?_
                            rotate_left
                            · simp only [Act.put,q1,q2,q3,i64_w,i32_w]
                              rfl
                            refine pure_ (i:=28) (N:=some 133) (v:=undef) (a':=?_) #[true,true,true,true,true,true,true,true,true,true,true,true,true,true,true,true,true,true,true,true,true,true,true,true,true,true,true,true,true,false] rfl rfl (any_of HT_.out (by kernel_rfl)) (fun _ _ _ h => h) (Or.inr ⟨by rfl,rfl⟩) ?_ ?_
                            rotate_left
                            · simp only [Act.put,q1,q2,q3,i64_w,i32_w]
                              rfl
                            refine pure_ (i:=29) (N:=some 134) (v:=?_) (a':=?_) #[true,true,true,true,true,true,true,true,true,true,true,true,true,true,true,true,true,true,true,true,true,true,true,true,true,true,true,true,true,true] rfl rfl (any_of HT_.out (by kernel_rfl)) (fun _ _ _ h => h) (Or.inl ⟨by rfl,?_⟩) ?_ ?_
                            rotate_left
                            · intro w'
                              go_simp
                              with_reducible rfl
                            rotate_left
                            · simp only [Act.put,q1,q2,q3,i64_w,i32_w]
                              rfl
                            refine done_ (done_of HT_.out (by kernel_rfl)) ?_
                            try go_wp2
                            go_ret
                            exact ⟨by first|rfl|(simp [errW_none,errW_some] <;> rfl)|(simp [*,errW_none,errW_some] <;> rfl),by repeat (first|(with_reducible first|exact HB.out|apply sa|apply sn|apply sd|refine sy ?_ (by assumption))|exact HB.out)⟩
                        · rw [if_neg c107] at H
                          exact absurd H (by simp)
                      · rw [if_neg c106] at H
                        exact absurd H (by simp)
                    · rw [if_neg c105] at H
                      exact absurd H (by simp)
                  · rw [if_neg c104] at H
                    have c104b0 : decide (x102_3 < (t282.length : Int)) = false:=decide_eq_false c104;clear c104;replace H:=Option.bind_eq_some_iff.mp H;obtain ⟨t294,A1160,H⟩:=H;replace H : (some t294) = some r:=H;have A116:=am A1160;clear A1160;obtain rfl:=Option.some.inj H
                    go_wp2_with (first|((with_reducible refine gate_callee (f:=14) rfl ?_);refine goesL_ (some 136) rfl rfl Try.func14 (by kernel_rfl) rfl #[] rfl (by (try simp only [List.map_toArray,List.map_cons,List.map_nil]);first|done|rfl|(simp only [List.length_drop,List.length_take];rfl)) ?_;(with_reducible refine (celluloidlaw16_awake.calls k3  t294 _ A116.out).mono ?_);rintro e w117 ⟨rfl,hb⟩;refine ⟨_,rfl,?_⟩;replace HO_15:=am (Kd.R_below (by (with_reducible repeat (first|apply Kd.R_alloc|apply Kd.R_drewN|apply Kd.R_drew));exact HO_15.out) hb);replace HO_16:=am (Kd.R_below (by (with_reducible repeat (first|apply Kd.R_alloc|apply Kd.R_drewN|apply Kd.R_drew));exact HO_16.out) hb);replace BK272:=am (bw (by exact BK272.out) hb);replace BK273:=am (bw (by exact BK273.out) hb);replace BK274:=am (bw (by exact BK274.out) hb);replace BK275:=am (bw (by exact BK275.out) hb);replace BK276:=am (bw (by exact BK276.out) hb);replace BK277:=am (bw (by exact BK277.out) hb);replace BK278:=am (bw (by exact BK278.out) hb);replace HB:=am (ss (by repeat (first|(with_reducible first|exact HB.out|apply sa|apply sn|apply sd|refine sy ?_ (by assumption))|exact HB.out)) hb);(try clear hb);(try clear hb2);(try clear hk);(try clear hi)))
                    go_ret
                    exact ⟨by first|rfl|(simp [errW_none,errW_some] <;> rfl)|(simp [*,errW_none,errW_some] <;> rfl),by repeat (first|(with_reducible first|exact HB.out|apply sa|apply sn|apply sd|refine sy ?_ (by assumption))|exact HB.out)⟩

end Go.Proofs.Ytdhjcfgklbedjaa.P
