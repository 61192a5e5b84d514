/- Printed by printx.py (wip/tool) out of the translation: plain functions that tell what the program answers,and the proofs that the program comes to these answers,for all arguments of their kinds. Lean checks it. -/
import Derived.Test.YtlldbmodidhidaaShort
import Derived.Test.YtlldbmodidhidaaPx0
import Derived.Test.YtlldbmodidhidaaPx9
import Derived.Test.YtlldbmodidhidaaPx11
namespace Go.Proofs.Ytlldbmodidhidaa.P
open Go.RowKit Go.Proofs.YtlldbmodidhidaaW.PrintWords Go.Proofs.YtlldbmodidhidaaW.PrintLast Go.Proofs.YtlldbmodidhidaaW.PrintMore
attribute [local go_sem] max2_int min2_int max_two min_two max_three min_three max_four min_four max_five min_five max_six min_six   -- for this text's walks alone
set_option linter.unusedVariables false
set_option linter.unusedSimpArgs false

/-! ### shape_same: function 59 -/
mutual
def shape_same.j0 : Nat → Bool → Int → Int → Int → Int → Int → Int → Int → Int → List (S65) → List (S79) → Int → Int → Int → Int → Int → Int → Int → Int → List (S65) → List (S79) → Option (Bool)
  | 0,_,_,_,_,_,_,_,_,_,_,_,_,_,_,_,_,_,_,_,_,_ => none
  | k + 1,x20,x164000,x164001,x164002,x164003,x164004,x164005,x164006,x164007,x164008,x164009,x165000,x165001,x165002,x165003,x165004,x165005,x165006,x165007,x165008,x165009 => if x20 = true then (some false) else (shape_same.l0 k (x164008.length : Int) 0 x164000 x164001 x164002 x164003 x164004 x164005 x164006 x164007 x164008 x164009 x165000 x165001 x165002 x165003 x165004 x165005 x165006 x165007 x165008 x165009)
def shape_same.l0 : Nat → Int → Int → Int → Int → Int → Int → Int → Int → Int → Int → List (S65) → List (S79) → Int → Int → Int → Int → Int → Int → Int → Int → List (S65) → List (S79) → Option (Bool)
  | 0,_,_,_,_,_,_,_,_,_,_,_,_,_,_,_,_,_,_,_,_,_,_ => none
  | k + 1,x23,x24,x164000,x164001,x164002,x164003,x164004,x164005,x164006,x164007,x164008,x164009,x165000,x165001,x165002,x165003,x165004,x165005,x165006,x165007,x165008,x165009 => if x24 < x23 then (if 0 ≤ x24 then (if x24 < (x164008.length : Int) then (if x24 < (x165008.length : Int) then ((style_SameFill.f k ((rd_T65 x164008 x24).f0) ((rd_T65 x164008 x24).f1.f0) ((rd_T65 x164008 x24).f1.f1) ((rd_T65 x164008 x24).f1.f2) ((rd_T65 x164008 x24).f1.f3) ((rd_T65 x164008 x24).f2.f0) ((rd_T65 x164008 x24).f2.f1) ((rd_T65 x164008 x24).f2.f2) ((rd_T65 x164008 x24).f2.f3) ((rd_T65 x164008 x24).f2.f4) ((rd_T65 x164008 x24).f2.f5) ((rd_T65 x164008 x24).f3) ((rd_T65 x164008 x24).f4) ((rd_T65 x164008 x24).f5) ((rd_T65 x165008 x24).f0) ((rd_T65 x165008 x24).f1.f0) ((rd_T65 x165008 x24).f1.f1) ((rd_T65 x165008 x24).f1.f2) ((rd_T65 x165008 x24).f1.f3) ((rd_T65 x165008 x24).f2.f0) ((rd_T65 x165008 x24).f2.f1) ((rd_T65 x165008 x24).f2.f2) ((rd_T65 x165008 x24).f2.f3) ((rd_T65 x165008 x24).f2.f4) ((rd_T65 x165008 x24).f2.f5) ((rd_T65 x165008 x24).f3) ((rd_T65 x165008 x24).f4) ((rd_T65 x165008 x24).f5)).bind fun t168 => (if t168 = true then (shape_same.l0 k x23 (wrap64 (x24 + 1)) x164000 x164001 x164002 x164003 x164004 x164005 x164006 x164007 x164008 x164009 x165000 x165001 x165002 x165003 x165004 x165005 x165006 x165007 x165008 x165009) else (some false))) else (none)) else (none)) else (none)) else (if x164000 = x165000 then (if x164001 = x165001 then (if x164002 = x165002 then (if x164003 = x165003 then (if x164004 = x165004 then (if x164005 = x165005 then (if x164006 = x165006 then (some (x164007 == x165007)) else (some false)) else (some false)) else (some false)) else (some false)) else (some false)) else (some false)) else (some false))
end
def shape_same.f (k : Nat) (a0_0 : Int) (a0_1 : Int) (a0_2 : Int) (a0_3 : Int) (a0_4 : Int) (a0_5 : Int) (a0_6 : Int) (a0_7 : Int) (l0_8 : List (S65)) (l0_9 : List (S79)) (a1_0 : Int) (a1_1 : Int) (a1_2 : Int) (a1_3 : Int) (a1_4 : Int) (a1_5 : Int) (a1_6 : Int) (a1_7 : Int) (l1_8 : List (S65)) (l1_9 : List (S79)) : Option (Bool):=if (l0_8.length : Int) = (l1_8.length : Int) then ((api_Stroke_61.f k l0_9 l1_9).bind fun t165 => (shape_same.j0 k (!t165) a0_0 a0_1 a0_2 a0_3 a0_4 a0_5 a0_6 a0_7 l0_8 l0_9 a1_0 a1_1 a1_2 a1_3 a1_4 a1_5 a1_6 a1_7 l1_8 l1_9)) else (shape_same.j0 k true a0_0 a0_1 a0_2 a0_3 a0_4 a0_5 a0_6 a0_7 l0_8 l0_9 a1_0 a1_1 a1_2 a1_3 a1_4 a1_5 a1_6 a1_7 l1_8 l1_9)
theorem shape_same.mono_l : ∀ k,(∀ y0 y1 y2 y3 y4 y5 y6 y7 y8 y9 y10 y11 y12 y13 y14 y15 y16 y17 y18 y19 y20,LeO (shape_same.j0 k y0 y1 y2 y3 y4 y5 y6 y7 y8 y9 y10 y11 y12 y13 y14 y15 y16 y17 y18 y19 y20) (shape_same.j0 (k + 1) y0 y1 y2 y3 y4 y5 y6 y7 y8 y9 y10 y11 y12 y13 y14 y15 y16 y17 y18 y19 y20)) ∧ (∀ y0 y1 y2 y3 y4 y5 y6 y7 y8 y9 y10 y11 y12 y13 y14 y15 y16 y17 y18 y19 y20 y21,LeO (shape_same.l0 k y0 y1 y2 y3 y4 y5 y6 y7 y8 y9 y10 y11 y12 y13 y14 y15 y16 y17 y18 y19 y20 y21) (shape_same.l0 (k + 1) y0 y1 y2 y3 y4 y5 y6 y7 y8 y9 y10 y11 y12 y13 y14 y15 y16 y17 y18 y19 y20 y21))
  | 0 => ⟨fun _ _ _ _ _ _ _ _ _ _ _ _ _ _ _ _ _ _ _ _ _ r h => by simp [shape_same.j0] at h,fun _ _ _ _ _ _ _ _ _ _ _ _ _ _ _ _ _ _ _ _ _ _ r h => by simp [shape_same.l0] at h⟩
  | k + 1 => by
    obtain ⟨ih0,ih1⟩:=shape_same.mono_l k;refine ⟨?_,?_⟩
    · intro y0 y1 y2 y3 y4 y5 y6 y7 y8 y9 y10 y11 y12 y13 y14 y15 y16 y17 y18 y19 y20
      unfold shape_same.j0
      repeat' first
      | (with_reducible exact ih0 _ _ _ _ _ _ _ _ _ _ _ _ _ _ _ _ _ _ _ _ _)
      | (with_reducible exact ih1 _ _ _ _ _ _ _ _ _ _ _ _ _ _ _ _ _ _ _ _ _ _)
      | (with_reducible exact api_Stroke_61.mono _ _ _)
      | (with_reducible exact style_SameFill.mono _ _ _ _ _ _ _ _ _ _ _ _ _ _ _ _ _ _ _ _ _ _ _ _ _ _ _ _ _)
      | (with_reducible exact LeO.refl _)
      | (with_reducible exact LeO.none _)
      | (with_reducible refine LeO.ite ?_ ?_)
      | (with_reducible refine LeO.bind ?_ (fun _ => ?_))
      | exact ih0 _ _ _ _ _ _ _ _ _ _ _ _ _ _ _ _ _ _ _ _ _
      | exact ih1 _ _ _ _ _ _ _ _ _ _ _ _ _ _ _ _ _ _ _ _ _ _
      | exact api_Stroke_61.mono _ _ _
      | exact style_SameFill.mono _ _ _ _ _ _ _ _ _ _ _ _ _ _ _ _ _ _ _ _ _ _ _ _ _ _ _ _ _
      | exact LeO.none _
      | refine LeO.ite ?_ ?_
      | refine LeO.bind ?_ (fun _ => ?_)
    · intro y0 y1 y2 y3 y4 y5 y6 y7 y8 y9 y10 y11 y12 y13 y14 y15 y16 y17 y18 y19 y20 y21
      unfold shape_same.l0
      repeat' first
      | (with_reducible exact ih0 _ _ _ _ _ _ _ _ _ _ _ _ _ _ _ _ _ _ _ _ _)
      | (with_reducible exact ih1 _ _ _ _ _ _ _ _ _ _ _ _ _ _ _ _ _ _ _ _ _ _)
      | (with_reducible exact api_Stroke_61.mono _ _ _)
      | (with_reducible exact style_SameFill.mono _ _ _ _ _ _ _ _ _ _ _ _ _ _ _ _ _ _ _ _ _ _ _ _ _ _ _ _ _)
      | (with_reducible exact LeO.refl _)
      | (with_reducible exact LeO.none _)
      | (with_reducible refine LeO.ite ?_ ?_)
      | (with_reducible refine LeO.bind ?_ (fun _ => ?_))
      | exact ih0 _ _ _ _ _ _ _ _ _ _ _ _ _ _ _ _ _ _ _ _ _
      | exact ih1 _ _ _ _ _ _ _ _ _ _ _ _ _ _ _ _ _ _ _ _ _ _
      | exact api_Stroke_61.mono _ _ _
      | exact style_SameFill.mono _ _ _ _ _ _ _ _ _ _ _ _ _ _ _ _ _ _ _ _ _ _ _ _ _ _ _ _ _
      | exact LeO.none _
      | refine LeO.ite ?_ ?_
      | refine LeO.bind ?_ (fun _ => ?_)
theorem shape_same.mono : ∀ a0 a1 a2 a3 a4 a5 a6 a7 a8 a9 a10 a11 a12 a13 a14 a15 a16 a17 a18 a19 k,LeO (shape_same.f k a0 a1 a2 a3 a4 a5 a6 a7 a8 a9 a10 a11 a12 a13 a14 a15 a16 a17 a18 a19) (shape_same.f (k + 1) a0 a1 a2 a3 a4 a5 a6 a7 a8 a9 a10 a11 a12 a13 a14 a15 a16 a17 a18 a19):=by
  intro a0 a1 a2 a3 a4 a5 a6 a7 a8 a9 a10 a11 a12 a13 a14 a15 a16 a17 a18 a19 k
  obtain ⟨ih0,ih1⟩:=shape_same.mono_l k
  unfold shape_same.f
  repeat' first
      | (with_reducible exact ih0 _ _ _ _ _ _ _ _ _ _ _ _ _ _ _ _ _ _ _ _ _)
      | (with_reducible exact ih1 _ _ _ _ _ _ _ _ _ _ _ _ _ _ _ _ _ _ _ _ _ _)
      | (with_reducible exact api_Stroke_61.mono _ _ _)
      | (with_reducible exact style_SameFill.mono _ _ _ _ _ _ _ _ _ _ _ _ _ _ _ _ _ _ _ _ _ _ _ _ _ _ _ _ _)
      | (with_reducible exact LeO.refl _)
      | (with_reducible exact LeO.none _)
      | (with_reducible refine LeO.ite ?_ ?_)
      | (with_reducible refine LeO.bind ?_ (fun _ => ?_))
      | exact ih0 _ _ _ _ _ _ _ _ _ _ _ _ _ _ _ _ _ _ _ _ _
      | exact ih1 _ _ _ _ _ _ _ _ _ _ _ _ _ _ _ _ _ _ _ _ _ _
      | exact api_Stroke_61.mono _ _ _
      | exact style_SameFill.mono _ _ _ _ _ _ _ _ _ _ _ _ _ _ _ _ _ _ _ _ _ _ _ _ _ _ _ _ _
      | exact LeO.none _
      | refine LeO.ite ?_ ?_
      | refine LeO.bind ?_ (fun _ => ?_)
def shape_same.T6 : Bool × List (List Nat × List Nat):=(true,[([],[]),([0],[0]),([],[]),([1,2],[1,2]),([3],[3]),([],[]),([5],[5]),([],[]),([6,7],[6,7]),([8],[8]),([4,9],[4,9]),([10],[10])])
def shape_same.B6 : List Nat:=[0,1,0,7,15,0,32,0,224,480,1023,2047]
theorem shape_same.tab6 : rtab .any (opsOf Try.f59 6) = shape_same.T6:=by kernel_rfl
theorem shape_same.bits6 : waitsOk shape_same.T6.2 shape_same.B6 = true:=by kernel_rfl
set_option maxHeartbeats 8000000 in
set_option maxRecDepth 100000 in
theorem shape_same.calls (k : Nat) (a0_0 : Int) (a0_1 : Int) (a0_2 : Int) (a0_3 : Int) (a0_4 : Int) (a0_5 : Int) (a0_6 : Int) (a0_7 : Int) (A0_8 : Option Addr) (c0_8 : Nat) (l0_8 : List (S65)) (A0_9 : Option Addr) (c0_9 : Nat) (l0_9 : List (S79)) (a1_0 : Int) (a1_1 : Int) (a1_2 : Int) (a1_3 : Int) (a1_4 : Int) (a1_5 : Int) (a1_6 : Int) (a1_7 : Int) (A1_8 : Option Addr) (c1_8 : Nat) (l1_8 : List (S65)) (A1_9 : Option Addr) (c1_9 : Nat) (l1_9 : List (S79)) (r : Bool) (w : World) (hr0_8 : Kd.C k65 w A0_8 l0_8.length l0_8) (hc0_8 : l0_8.length ≤ c0_8) (hr0_9 : Kd.C k79 w A0_9 l0_9.length l0_9) (hc0_9 : l0_9.length ≤ c0_9) (hr1_8 : Kd.C k65 w A1_8 l1_8.length l1_8) (hc1_8 : l1_8.length ≤ c1_8) (hr1_9 : Kd.C k79 w A1_9 l1_9.length l1_9) (hc1_9 : l1_9.length ≤ c1_9) (h : shape_same.f k a0_0 a0_1 a0_2 a0_3 a0_4 a0_5 a0_6 a0_7 l0_8 l0_9 a1_0 a1_1 a1_2 a1_3 a1_4 a1_5 a1_6 a1_7 l1_8 l1_9 = some r) :
    Calls Try.prog 59 #[.agg #[.int .i64 a0_0,.int .i64 a0_1,.int .i64 a0_2,.int .i64 a0_3,.int .i64 a0_4,.int .i64 a0_5,.int .i64 a0_6,.int .i64 a0_7,.slice A0_8 l0_8.length c0_8,.slice A0_9 l0_9.length c0_9],.agg #[.int .i64 a1_0,.int .i64 a1_1,.int .i64 a1_2,.int .i64 a1_3,.int .i64 a1_4,.int .i64 a1_5,.int .i64 a1_6,.int .i64 a1_7,.slice A1_8 l1_8.length c1_8,.slice A1_9 l1_9.length c1_9]] w fun e w' => e = .returned (.bool r) ∧ Below w.heap.size w w':=by
  have hu49:=Try.underlying49;have hu65:=Try.underlying65;have HR0_8:=am hr0_8;have HC0_8:=am hc0_8;clear hr0_8 hc0_8;have HR0_9:=am hr0_9;have HC0_9:=am hc0_9;clear hr0_9 hc0_9;have HR1_8:=am hr1_8;have HC1_8:=am hc1_8;clear hr1_8 hc1_8;have HR1_9:=am hr1_9;have HC1_9:=am hc1_9;clear hr1_9 hc1_9;have HB:=am (Below.refl w.heap.size w);have H : (if (l0_8.length : Int) = (l1_8.length : Int) then ((api_Stroke_61.f k l0_9 l1_9).bind fun t165 => (shape_same.j0 k (!t165) a0_0 a0_1 a0_2 a0_3 a0_4 a0_5 a0_6 a0_7 l0_8 l0_9 a1_0 a1_1 a1_2 a1_3 a1_4 a1_5 a1_6 a1_7 l1_8 l1_9)) else (shape_same.j0 k true a0_0 a0_1 a0_2 a0_3 a0_4 a0_5 a0_6 a0_7 l0_8 l0_9 a1_0 a1_1 a1_2 a1_3 a1_4 a1_5 a1_6 a1_7 l1_8 l1_9)) = some r:=h;clear h;have HC3:=am H;clear H
  go_enter Try.func59,Try.ntmps59
  go_upto_region 1 with (first|((with_reducible refine gate_dst (N:=2) rfl ?_);refine box_event ?hg (N:=2) ?hd (cs:=#[.int .i64 a0_0,.int .i64 a0_1,.int .i64 a0_2,.int .i64 a0_3,.int .i64 a0_4,.int .i64 a0_5,.int .i64 a0_6,.int .i64 a0_7,.slice A0_8 l0_8.length c0_8,.slice A0_9 l0_9.length c0_9]) (t:=49) ?hr ?_;(case hd => rfl);(case hg => rfl);(case hr => first|(go_simp;done)|(go_simp;rfl));intro gb163 hg w4 hbox hb;have n0_:=am (ss (by repeat (first|(with_reducible first|exact HB.out|apply sa|apply sn|apply sd)|exact HB.out)) hb);have n1_:=am (hbox);have n2_:=am ((by rw [hg];exact (sz (by repeat (first|(with_reducible first|exact HB.out|apply sa|apply sn|apply sd)|exact HB.out))) : w.heap.size ≤ gb163));have n3_:=am ((by rw [hg];exact (sz (by repeat (first|(with_reducible first|exact HB.out|apply sa|apply sn|apply sd)|exact HB.out))) : w.heap.size ≤ gb163));clear HB;have HB:=n0_;have BK163:=n1_;have GW163:=n2_;have GE163:=n3_;clear n0_ n1_ n2_ n3_;clear hb hbox hg)|((with_reducible refine gate_dst (N:=3) rfl ?_);refine box_event ?hg (N:=3) ?hd (cs:=#[.int .i64 a1_0,.int .i64 a1_1,.int .i64 a1_2,.int .i64 a1_3,.int .i64 a1_4,.int .i64 a1_5,.int .i64 a1_6,.int .i64 a1_7,.slice A1_8 l1_8.length c1_8,.slice A1_9 l1_9.length c1_9]) (t:=49) ?hr ?_;(case hd => rfl);(case hg => rfl);(case hr => first|(go_simp;done)|(go_simp;rfl));intro gb164 hg w5 hbox hb;have n0_:=am (bw (by exact BK163.out) hb);have n1_:=am (ss (by repeat (first|(with_reducible first|exact HB.out|apply sa|apply sn|apply sd|refine sx ?_ GE163.out)|exact HB.out)) hb);have n2_:=am (hbox);have n3_:=am ((by rw [hg];exact (sz (by repeat (first|(with_reducible first|exact HB.out|apply sa|apply sn|apply sd|refine sx ?_ GE163.out)|exact HB.out))) : w.heap.size ≤ gb164));have n4_:=n3_;have n5_:=nb (by exact BK163.out) hg;have n6_:=ng (by exact BK163.out) hg;clear BK163;clear HB;have BK163:=n0_;have HB:=n1_;have BK164:=n2_;have GW164:=n3_;have GE164:=n4_;have NB163_164:=n5_;have NB164_163:=n6_;clear n0_ n1_ n2_ n3_ n4_ n5_ n6_;clear hb hbox hg))
  (try simp only [Act.put,q1,q2,q3])
  go_cut [20] (fun v20 wc => ∃ (kq : Nat) (x20_2 : Bool),v20 = .bool x20_2 ∧ Aside0 (shape_same.j0 kq x20_2 a0_0 a0_1 a0_2 a0_3 a0_4 a0_5 a0_6 a0_7 l0_8 l0_9 a1_0 a1_1 a1_2 a1_3 a1_4 a1_5 a1_6 a1_7 l1_8 l1_9 = some r) ∧ Aside0 (kq ≤ k) ∧ Aside0 (wc.heap[gb163]? = some (.cells #[.int .i64 a0_0,.int .i64 a0_1,.int .i64 a0_2,.int .i64 a0_3,.int .i64 a0_4,.int .i64 a0_5,.int .i64 a0_6,.int .i64 a0_7,(.slice A0_8 l0_8.length c0_8),(.slice A0_9 l0_9.length c0_9)] 49 (0,0))) ∧ Aside0 (wc.heap[gb164]? = some (.cells #[.int .i64 a1_0,.int .i64 a1_1,.int .i64 a1_2,.int .i64 a1_3,.int .i64 a1_4,.int .i64 a1_5,.int .i64 a1_6,.int .i64 a1_7,(.slice A1_8 l1_8.length c1_8),(.slice A1_9 l1_9.length c1_9)] 49 (0,0))) ∧ Aside0 (Below w.heap.size w wc))
  case first =>
    have H:=HC3.out;clear HC3
    by_cases c6 : (l0_8.length : Int) = (l1_8.length : Int)
    · rw [if_pos c6] at H
      have c6b0 : ((l0_8.length : Int) == (l1_8.length : Int)) = true:=beq_iff_eq.mpr c6;have c6b1 : ((l0_8.length : Int) != (l1_8.length : Int)) = false:=bne_eq_false_iff_eq.mpr c6
      have c6b2 : (l0_8.length == l1_8.length) = true:=by first|simpa using c6|(simp at c6 ⊢;omega)
      clear c6
      (first|rw [c6b0]|(simp only [i64_w,i32_w];rw [c6b0])|skip)
      replace H:=Option.bind_eq_some_iff.mp H;obtain ⟨t165,A70,H⟩:=H;replace H : (shape_same.j0 k (!t165) a0_0 a0_1 a0_2 a0_3 a0_4 a0_5 a0_6 a0_7 l0_8 l0_9 a1_0 a1_1 a1_2 a1_3 a1_4 a1_5 a1_6 a1_7 l1_8 l1_9) = some r:=H;have A7:=am A70;clear A70;have H':=am H;clear H;have hnb8:=NB163_164.out;have hnc8:=NB164_163.out;obtain ⟨hcz9_0,hcz9_1,hcz9_2,hcz9_3,hcz9_4,hcz9_5,hcz9_6,hcz9_7,hcz9_8,hcz9_9⟩:=cq10 BK163.out;obtain ⟨hfz9_0,hfz9_1,hfz9_2,hfz9_3,hfz9_4,hfz9_5,hfz9_6,hfz9_7,hfz9_8,hfz9_9⟩:=fq10 BK163.out;obtain ⟨hcz10_0,hcz10_1,hcz10_2,hcz10_3,hcz10_4,hcz10_5,hcz10_6,hcz10_7,hcz10_8,hcz10_9⟩:=cq10 BK164.out;obtain ⟨hfz10_0,hfz10_1,hfz10_2,hfz10_3,hfz10_4,hfz10_5,hfz10_6,hfz10_7,hfz10_8,hfz10_9⟩:=fq10 BK164.out
      go_wp2_with (first|(go_at_call 61;(with_reducible refine (api_Stroke_61.calls k _ _ l0_9 _ _ l1_9 t165 _ ?side1 ?side2 ?side3 ?side4 A7.out).mono ?_);(case side1 => repeat (first|exact (Kd.C_below HR0_9.out HB.out)|(with_reducible refine Kd.C_alloc ?_ _)|(with_reducible refine Kd.C_drewN ?_ _)|(with_reducible refine Kd.C_drew ?_)));(case side2 => exact HC0_9.out);(case side3 => repeat (first|exact (Kd.C_below HR1_9.out HB.out)|(with_reducible refine Kd.C_alloc ?_ _)|(with_reducible refine Kd.C_drewN ?_ _)|(with_reducible refine Kd.C_drew ?_)));(case side4 => exact HC1_9.out);rintro e w' ⟨rfl,⟨nd,rfl⟩⟩))
      go_meet
      case rel => exact ⟨_,(!t165),(by first|rfl|(simp;done)|(simp [*];done)),H',⟨by first|omega|exact Nat.le_refl _⟩,⟨by exact BK163.out⟩,⟨by exact BK164.out⟩,⟨by repeat (first|(with_reducible first|exact HB.out|apply sa|apply sn|apply sd|refine sy ?_ (by assumption))|exact HB.out)⟩⟩
    · rw [if_neg c6] at H
      have c6b0 : ((l0_8.length : Int) == (l1_8.length : Int)) = false:=beq_eq_false_iff_ne.mpr c6;have c6b1 : ((l0_8.length : Int) != (l1_8.length : Int)) = true:=bne_iff_ne.mpr c6
      have c6b2 : (l0_8.length == l1_8.length) = false:=by first|simpa using c6|(simp at c6 ⊢;omega)
      (first|rw [c6b0]|(simp only [i64_w,i32_w];rw [c6b0])|skip)
      have H':=am H;clear H;have hnb11:=NB163_164.out;have hnc11:=NB164_163.out;obtain ⟨hcz12_0,hcz12_1,hcz12_2,hcz12_3,hcz12_4,hcz12_5,hcz12_6,hcz12_7,hcz12_8,hcz12_9⟩:=cq10 BK163.out;obtain ⟨hfz12_0,hfz12_1,hfz12_2,hfz12_3,hfz12_4,hfz12_5,hfz12_6,hfz12_7,hfz12_8,hfz12_9⟩:=fq10 BK163.out;obtain ⟨hcz13_0,hcz13_1,hcz13_2,hcz13_3,hcz13_4,hcz13_5,hcz13_6,hcz13_7,hcz13_8,hcz13_9⟩:=cq10 BK164.out;obtain ⟨hfz13_0,hfz13_1,hfz13_2,hfz13_3,hfz13_4,hfz13_5,hfz13_6,hfz13_7,hfz13_8,hfz13_9⟩:=fq10 BK164.out
      go_wp2
      go_meet
      case rel => exact ⟨_,(true),(by first|rfl|(simp;done)|(simp [*];done)),H',⟨by first|omega|exact Nat.le_refl _⟩,⟨by exact BK163.out⟩,⟨by exact BK164.out⟩,⟨by repeat (first|(with_reducible first|exact HB.out|apply sa|apply sn|apply sd|refine sy ?_ (by assumption))|exact HB.out)⟩⟩
  case rest =>
    clear HC3
    (try clear c1);(try clear p2);(try clear c5);(try clear c6);(try clear c6b0);(try clear c6b1);(try clear c6b2);(try clear c8);(try clear c11);(try clear hcz10_0 hcz10_1 hcz10_2 hcz10_3 hcz10_4 hcz10_5 hcz10_6 hcz10_7 hcz10_8 hcz10_9);(try clear hcz12_0 hcz12_1 hcz12_2 hcz12_3 hcz12_4 hcz12_5 hcz12_6 hcz12_7 hcz12_8 hcz12_9);(try clear hcz13_0 hcz13_1 hcz13_2 hcz13_3 hcz13_4 hcz13_5 hcz13_6 hcz13_7 hcz13_8 hcz13_9);(try clear hcz9_0 hcz9_1 hcz9_2 hcz9_3 hcz9_4 hcz9_5 hcz9_6 hcz9_7 hcz9_8 hcz9_9);(try clear hfz10_0 hfz10_1 hfz10_2 hfz10_3 hfz10_4 hfz10_5 hfz10_6 hfz10_7 hfz10_8 hfz10_9);(try clear hfz12_0 hfz12_1 hfz12_2 hfz12_3 hfz12_4 hfz12_5 hfz12_6 hfz12_7 hfz12_8 hfz12_9);(try clear hfz13_0 hfz13_1 hfz13_2 hfz13_3 hfz13_4 hfz13_5 hfz13_6 hfz13_7 hfz13_8 hfz13_9);(try clear hfz9_0 hfz9_1 hfz9_2 hfz9_3 hfz9_4 hfz9_5 hfz9_6 hfz9_7 hfz9_8 hfz9_9)
    obtain ⟨kq,x20_2,rfl,HA,HJ2,BK163,BK164,HB⟩:=hcut
    cases kq with
    | zero => exact absurd HA.out (by simp [shape_same.j0])
    | succ kj2 =>
      have H:=HA.out;clear HA;simp only [shape_same.j0] at H
      by_cases c14 : x20_2 = true
      · subst c14
        have H1 : (some false) = some r:=by rw [if_pos rfl] at H;exact H
        clear H;have H:=H1;clear H1;obtain rfl:=Option.some.inj H
        go_wp2
        go_ret
        exact ⟨by first|rfl|(simp [errW_none,errW_some] <;> rfl)|(simp [*,errW_none,errW_some] <;> rfl),by repeat (first|(with_reducible first|exact HB.out|apply sa|apply sn|apply sd|refine sy ?_ (by assumption))|exact HB.out)⟩
      · replace c14:=Bool.eq_false_iff.mpr c14
        subst c14
        have H1 : (shape_same.l0 kj2 (l0_8.length : Int) 0 a0_0 a0_1 a0_2 a0_3 a0_4 a0_5 a0_6 a0_7 l0_8 l0_9 a1_0 a1_1 a1_2 a1_3 a1_4 a1_5 a1_6 a1_7 l1_8 l1_9) = some r:=by rw [if_neg (show ¬ (false = true) by decide)] at H;exact H
        clear H;have H:=H1;clear H1;have H':=am H;clear H;have hnb15:=NB163_164.out;have hnc15:=NB164_163.out;obtain ⟨hcz16_0,hcz16_1,hcz16_2,hcz16_3,hcz16_4,hcz16_5,hcz16_6,hcz16_7,hcz16_8,hcz16_9⟩:=cq10 BK163.out;obtain ⟨hfz16_0,hfz16_1,hfz16_2,hfz16_3,hfz16_4,hfz16_5,hfz16_6,hfz16_7,hfz16_8,hfz16_9⟩:=fq10 BK163.out
        go_wp2
        go_loopg [24] kj2 (fun kq v24 w' => ∃ (x24_2 : Int),v24 = .int .i64 x24_2 ∧ Aside0 (shape_same.l0 kq (l0_8.length : Int) x24_2 a0_0 a0_1 a0_2 a0_3 a0_4 a0_5 a0_6 a0_7 l0_8 l0_9 a1_0 a1_1 a1_2 a1_3 a1_4 a1_5 a1_6 a1_7 l1_8 l1_9 = some r) ∧ Aside0 (kq ≤ kj2) ∧ Aside0 (w'.heap[gb163]? = some (.cells #[.int .i64 a0_0,.int .i64 a0_1,.int .i64 a0_2,.int .i64 a0_3,.int .i64 a0_4,.int .i64 a0_5,.int .i64 a0_6,.int .i64 a0_7,(.slice A0_8 l0_8.length c0_8),(.slice A0_9 l0_9.length c0_9)] 49 (0,0))) ∧ Aside0 (w'.heap[gb164]? = some (.cells #[.int .i64 a1_0,.int .i64 a1_1,.int .i64 a1_2,.int .i64 a1_3,.int .i64 a1_4,.int .i64 a1_5,.int .i64 a1_6,.int .i64 a1_7,(.slice A1_8 l1_8.length c1_8),(.slice A1_9 l1_9.length c1_9)] 49 (0,0))) ∧ Aside0 (Below w.heap.size w w'))
        case atStart => exact ⟨(0),(by first|rfl|(simp;done)|(simp [*];done)),H',⟨Nat.le_refl _⟩,⟨by exact BK163.out⟩,⟨by exact BK164.out⟩,⟨by repeat (first|(with_reducible first|exact HB.out|apply sa|apply sn|apply sd|refine sy ?_ (by assumption))|exact HB.out)⟩⟩
        case round =>
          clear H'
          (try clear c1);(try clear p2 p2);(try clear c5);(try clear c6);(try clear c6b0);(try clear c6b1);(try clear c6b2);(try clear c8);(try clear c11);(try clear c14);(try clear c15);(try clear hcz10_0 hcz10_1 hcz10_2 hcz10_3 hcz10_4 hcz10_5 hcz10_6 hcz10_7 hcz10_8 hcz10_9);(try clear hcz12_0 hcz12_1 hcz12_2 hcz12_3 hcz12_4 hcz12_5 hcz12_6 hcz12_7 hcz12_8 hcz12_9);(try clear hcz13_0 hcz13_1 hcz13_2 hcz13_3 hcz13_4 hcz13_5 hcz13_6 hcz13_7 hcz13_8 hcz13_9);(try clear hcz16_0 hcz16_1 hcz16_2 hcz16_3 hcz16_4 hcz16_5 hcz16_6 hcz16_7 hcz16_8 hcz16_9);(try clear hcz9_0 hcz9_1 hcz9_2 hcz9_3 hcz9_4 hcz9_5 hcz9_6 hcz9_7 hcz9_8 hcz9_9);(try clear hfz10_0 hfz10_1 hfz10_2 hfz10_3 hfz10_4 hfz10_5 hfz10_6 hfz10_7 hfz10_8 hfz10_9);(try clear hfz12_0 hfz12_1 hfz12_2 hfz12_3 hfz12_4 hfz12_5 hfz12_6 hfz12_7 hfz12_8 hfz12_9);(try clear hfz13_0 hfz13_1 hfz13_2 hfz13_3 hfz13_4 hfz13_5 hfz13_6 hfz13_7 hfz13_8 hfz13_9);(try clear hfz16_0 hfz16_1 hfz16_2 hfz16_3 hfz16_4 hfz16_5 hfz16_6 hfz16_7 hfz16_8 hfz16_9);(try clear hfz9_0 hfz9_1 hfz9_2 hfz9_3 hfz9_4 hfz9_5 hfz9_6 hfz9_7 hfz9_8 hfz9_9)
          obtain ⟨x24_2,rfl,HA,HK2,BK163,BK164,HB⟩:=hrel
          cases gk with
          | zero => exact absurd HA.out (by simp [shape_same.l0])
          | succ k2 =>
            have H:=HA.out;clear HA;simp only [shape_same.l0] at H
            by_cases c17 : x24_2 < (l0_8.length : Int)
            · rw [if_pos c17] at H
              have c17b0 : decide (x24_2 < (l0_8.length : Int)) = true:=decide_eq_true c17;clear c17
              by_cases c18 : 0 ≤ x24_2
              · rw [if_pos c18] at H
                have c18b0 : decide (0 ≤ x24_2) = true:=decide_eq_true c18;clear c18
                by_cases c19 : x24_2 < (l0_8.length : Int)
                · rw [if_pos c19] at H
                  have c19b0 : decide (x24_2 < (l0_8.length : Int)) = true:=decide_eq_true c19;clear c19
                  by_cases c20 : x24_2 < (l1_8.length : Int)
                  · rw [if_pos c20] at H
                    have c20b0 : decide (x24_2 < (l1_8.length : Int)) = true:=decide_eq_true c20;clear c20;replace H:=Option.bind_eq_some_iff.mp H;obtain ⟨t168,A210,H⟩:=H;replace H : (if t168 = true then (shape_same.l0 k2 (l0_8.length : Int) (wrap64 (x24_2 + 1)) a0_0 a0_1 a0_2 a0_3 a0_4 a0_5 a0_6 a0_7 l0_8 l0_9 a1_0 a1_1 a1_2 a1_3 a1_4 a1_5 a1_6 a1_7 l1_8 l1_9) else (some false)) = some r:=H;have A21:=am A210;clear A210
                    by_cases c22 : t168 = true
                    · subst c22
                      have H1 : (shape_same.l0 k2 (l0_8.length : Int) (wrap64 (x24_2 + 1)) a0_0 a0_1 a0_2 a0_3 a0_4 a0_5 a0_6 a0_7 l0_8 l0_9 a1_0 a1_1 a1_2 a1_3 a1_4 a1_5 a1_6 a1_7 l1_8 l1_9) = some r:=by rw [if_pos rfl] at H;exact H
                      clear H;have H:=H1;clear H1;have H':=am H;clear H
                      try go_wp2
                      replace BK163:=am (bd BK163.out);replace BK164:=am (bd BK164.out);replace HB:=am (sd HB.out);have p166 : 0 ≤ (x24_2 : Int):=of_decide_eq_true (by first|(with_reducible assumption)|assumption);have q166 : x24_2 < (l0_8.length : Int):=of_decide_eq_true (by first|(with_reducible assumption)|assumption);obtain ⟨ad166,A166_12,c166_12,e166,hx166_0,hx166_1,hx166_2,hx166_3,hx166_4,hx166_5,hx166_6,hx166_7,hx166_8,hx166_9,hx166_10,hx166_11,hx166_12,hx166_13,hl166_12,hi166_12⟩:=at_T65 HR0_8.out x24_2 p166 q166;have hw166_13:=hx166_13;have hw166_12:=hx166_12;have hw166_11:=hx166_11;have hw166_10:=hx166_10;have hw166_9:=hx166_9;have hw166_8:=hx166_8;have hw166_7:=hx166_7;have hw166_6:=hx166_6;have hw166_5:=hx166_5;have hw166_4:=hx166_4;have hw166_3:=hx166_3;have hw166_2:=hx166_2;have hw166_1:=hx166_1;have hw166_0:=hx166_0
                      cases e166
                      replace hx166_0:=(HB.out.cell (World.block_lt_of_cell? w _ hx166_0)).trans hx166_0;replace hx166_1:=(HB.out.cell (World.block_lt_of_cell? w _ hx166_1)).trans hx166_1;replace hx166_2:=(HB.out.cell (World.block_lt_of_cell? w _ hx166_2)).trans hx166_2;replace hx166_3:=(HB.out.cell (World.block_lt_of_cell? w _ hx166_3)).trans hx166_3;replace hx166_4:=(HB.out.cell (World.block_lt_of_cell? w _ hx166_4)).trans hx166_4;replace hx166_5:=(HB.out.cell (World.block_lt_of_cell? w _ hx166_5)).trans hx166_5;replace hx166_6:=(HB.out.cell (World.block_lt_of_cell? w _ hx166_6)).trans hx166_6;replace hx166_7:=(HB.out.cell (World.block_lt_of_cell? w _ hx166_7)).trans hx166_7;replace hx166_8:=(HB.out.cell (World.block_lt_of_cell? w _ hx166_8)).trans hx166_8;replace hx166_9:=(HB.out.cell (World.block_lt_of_cell? w _ hx166_9)).trans hx166_9;replace hx166_10:=(HB.out.cell (World.block_lt_of_cell? w _ hx166_10)).trans hx166_10;replace hx166_11:=(HB.out.cell (World.block_lt_of_cell? w _ hx166_11)).trans hx166_11;replace hx166_12:=(HB.out.cell (World.block_lt_of_cell? w _ hx166_12)).trans hx166_12;replace hx166_13:=(HB.out.cell (World.block_lt_of_cell? w _ hx166_13)).trans hx166_13;have HR166_12:=am hi166_12;have HC166_12:=am hl166_12;clear hi166_12 hl166_12;replace p166:=eq_true p166;replace q166:=eq_true q166;have p167 : 0 ≤ (x24_2 : Int):=of_decide_eq_true (by first|(with_reducible assumption)|assumption);have q167 : x24_2 < (l1_8.length : Int):=of_decide_eq_true (by first|(with_reducible assumption)|assumption);obtain ⟨ad167,A167_12,c167_12,e167,hx167_0,hx167_1,hx167_2,hx167_3,hx167_4,hx167_5,hx167_6,hx167_7,hx167_8,hx167_9,hx167_10,hx167_11,hx167_12,hx167_13,hl167_12,hi167_12⟩:=at_T65 HR1_8.out x24_2 p167 q167;have hw167_13:=hx167_13;have hw167_12:=hx167_12;have hw167_11:=hx167_11;have hw167_10:=hx167_10;have hw167_9:=hx167_9;have hw167_8:=hx167_8;have hw167_7:=hx167_7;have hw167_6:=hx167_6;have hw167_5:=hx167_5;have hw167_4:=hx167_4;have hw167_3:=hx167_3;have hw167_2:=hx167_2;have hw167_1:=hx167_1;have hw167_0:=hx167_0
                      cases e167
                      replace hx167_0:=(HB.out.cell (World.block_lt_of_cell? w _ hx167_0)).trans hx167_0;replace hx167_1:=(HB.out.cell (World.block_lt_of_cell? w _ hx167_1)).trans hx167_1;replace hx167_2:=(HB.out.cell (World.block_lt_of_cell? w _ hx167_2)).trans hx167_2;replace hx167_3:=(HB.out.cell (World.block_lt_of_cell? w _ hx167_3)).trans hx167_3;replace hx167_4:=(HB.out.cell (World.block_lt_of_cell? w _ hx167_4)).trans hx167_4;replace hx167_5:=(HB.out.cell (World.block_lt_of_cell? w _ hx167_5)).trans hx167_5;replace hx167_6:=(HB.out.cell (World.block_lt_of_cell? w _ hx167_6)).trans hx167_6;replace hx167_7:=(HB.out.cell (World.block_lt_of_cell? w _ hx167_7)).trans hx167_7;replace hx167_8:=(HB.out.cell (World.block_lt_of_cell? w _ hx167_8)).trans hx167_8;replace hx167_9:=(HB.out.cell (World.block_lt_of_cell? w _ hx167_9)).trans hx167_9;replace hx167_10:=(HB.out.cell (World.block_lt_of_cell? w _ hx167_10)).trans hx167_10;replace hx167_11:=(HB.out.cell (World.block_lt_of_cell? w _ hx167_11)).trans hx167_11;replace hx167_12:=(HB.out.cell (World.block_lt_of_cell? w _ hx167_12)).trans hx167_12;replace hx167_13:=(HB.out.cell (World.block_lt_of_cell? w _ hx167_13)).trans hx167_13;have HR167_12:=am hi167_12;have HC167_12:=am hl167_12;clear hi167_12 hl167_12;replace p167:=eq_true p167;replace q167:=eq_true q167;refine start_ (n:=12) (S:=fun w' => w'.cell? ⟨gb163,0,none⟩ = some (.int .i64 a0_0) ∧ w'.cell? ⟨gb163,1,none⟩ = some (.int .i64 a0_1) ∧ w'.cell? ⟨gb163,2,none⟩ = some (.int .i64 a0_2) ∧ w'.cell? ⟨gb163,3,none⟩ = some (.int .i64 a0_3) ∧ w'.cell? ⟨gb163,4,none⟩ = some (.int .i64 a0_4) ∧ w'.cell? ⟨gb163,5,none⟩ = some (.int .i64 a0_5) ∧ w'.cell? ⟨gb163,6,none⟩ = some (.int .i64 a0_6) ∧ w'.cell? ⟨gb163,7,none⟩ = some (.int .i64 a0_7) ∧ w'.cell? ⟨gb163,8,none⟩ = some (.slice (some ad166) l0_8.length c0_8) ∧ w'.cell? ⟨gb163,9,none⟩ = some (.slice A0_9 l0_9.length c0_9) ∧ w'.cell? ⟨gb164,0,none⟩ = some (.int .i64 a1_0) ∧ w'.cell? ⟨gb164,1,none⟩ = some (.int .i64 a1_1) ∧ w'.cell? ⟨gb164,2,none⟩ = some (.int .i64 a1_2) ∧ w'.cell? ⟨gb164,3,none⟩ = some (.int .i64 a1_3) ∧ w'.cell? ⟨gb164,4,none⟩ = some (.int .i64 a1_4) ∧ w'.cell? ⟨gb164,5,none⟩ = some (.int .i64 a1_5) ∧ w'.cell? ⟨gb164,6,none⟩ = some (.int .i64 a1_6) ∧ w'.cell? ⟨gb164,7,none⟩ = some (.int .i64 a1_7) ∧ w'.cell? ⟨gb164,8,none⟩ = some (.slice (some ad167) l1_8.length c1_8) ∧ w'.cell? ⟨gb164,9,none⟩ = some (.slice A1_9 l1_9.length c1_9) ∧ w'.cell? (ad166.add ((x24_2).toNat * 14)) = some (.int .i64 ((rd_T65 l0_8 x24_2).f0)) ∧ w'.cell? ⟨(ad166.add ((x24_2).toNat * 14)).block,(ad166.add ((x24_2).toNat * 14)).off + 1,none⟩ = some (.int .i64 ((rd_T65 l0_8 x24_2).f1.f0)) ∧ w'.cell? ⟨(ad166.add ((x24_2).toNat * 14)).block,(ad166.add ((x24_2).toNat * 14)).off + 2,none⟩ = some (.int .i64 ((rd_T65 l0_8 x24_2).f1.f1)) ∧ w'.cell? ⟨(ad166.add ((x24_2).toNat * 14)).block,(ad166.add ((x24_2).toNat * 14)).off + 3,none⟩ = some (.int .i64 ((rd_T65 l0_8 x24_2).f1.f2)) ∧ w'.cell? ⟨(ad166.add ((x24_2).toNat * 14)).block,(ad166.add ((x24_2).toNat * 14)).off + 4,none⟩ = some (.int .i64 ((rd_T65 l0_8 x24_2).f1.f3)) ∧ w'.cell? ⟨(ad166.add ((x24_2).toNat * 14)).block,(ad166.add ((x24_2).toNat * 14)).off + 5,none⟩ = some (.int .i64 ((rd_T65 l0_8 x24_2).f2.f0)) ∧ w'.cell? ⟨(ad166.add ((x24_2).toNat * 14)).block,(ad166.add ((x24_2).toNat * 14)).off + 6,none⟩ = some (.int .i64 ((rd_T65 l0_8 x24_2).f2.f1)) ∧ w'.cell? ⟨(ad166.add ((x24_2).toNat * 14)).block,(ad166.add ((x24_2).toNat * 14)).off + 7,none⟩ = some (.int .i64 ((rd_T65 l0_8 x24_2).f2.f2)) ∧ w'.cell? ⟨(ad166.add ((x24_2).toNat * 14)).block,(ad166.add ((x24_2).toNat * 14)).off + 8,none⟩ = some (.int .i64 ((rd_T65 l0_8 x24_2).f2.f3)) ∧ w'.cell? ⟨(ad166.add ((x24_2).toNat * 14)).block,(ad166.add ((x24_2).toNat * 14)).off + 9,none⟩ = some (.int .i64 ((rd_T65 l0_8 x24_2).f2.f4)) ∧ w'.cell? ⟨(ad166.add ((x24_2).toNat * 14)).block,(ad166.add ((x24_2).toNat * 14)).off + 10,none⟩ = some (.int .i64 ((rd_T65 l0_8 x24_2).f2.f5)) ∧ w'.cell? ⟨(ad166.add ((x24_2).toNat * 14)).block,(ad166.add ((x24_2).toNat * 14)).off + 11,none⟩ = some (.int .i64 ((rd_T65 l0_8 x24_2).f3)) ∧ w'.cell? ⟨(ad166.add ((x24_2).toNat * 14)).block,(ad166.add ((x24_2).toNat * 14)).off + 12,none⟩ = some (.slice A166_12 ((rd_T65 l0_8 x24_2).f4).length c166_12) ∧ w'.cell? ⟨(ad166.add ((x24_2).toNat * 14)).block,(ad166.add ((x24_2).toNat * 14)).off + 13,none⟩ = some (.int .i64 ((rd_T65 l0_8 x24_2).f5)) ∧ w'.cell? (ad167.add ((x24_2).toNat * 14)) = some (.int .i64 ((rd_T65 l1_8 x24_2).f0)) ∧ w'.cell? ⟨(ad167.add ((x24_2).toNat * 14)).block,(ad167.add ((x24_2).toNat * 14)).off + 1,none⟩ = some (.int .i64 ((rd_T65 l1_8 x24_2).f1.f0)) ∧ w'.cell? ⟨(ad167.add ((x24_2).toNat * 14)).block,(ad167.add ((x24_2).toNat * 14)).off + 2,none⟩ = some (.int .i64 ((rd_T65 l1_8 x24_2).f1.f1)) ∧ w'.cell? ⟨(ad167.add ((x24_2).toNat * 14)).block,(ad167.add ((x24_2).toNat * 14)).off + 3,none⟩ = some (.int .i64 ((rd_T65 l1_8 x24_2).f1.f2)) ∧ w'.cell? ⟨(ad167.add ((x24_2).toNat * 14)).block,(ad167.add ((x24_2).toNat * 14)).off + 4,none⟩ = some (.int .i64 ((rd_T65 l1_8 x24_2).f1.f3)) ∧ w'.cell? ⟨(ad167.add ((x24_2).toNat * 14)).block,(ad167.add ((x24_2).toNat * 14)).off + 5,none⟩ = some (.int .i64 ((rd_T65 l1_8 x24_2).f2.f0)) ∧ w'.cell? ⟨(ad167.add ((x24_2).toNat * 14)).block,(ad167.add ((x24_2).toNat * 14)).off + 6,none⟩ = some (.int .i64 ((rd_T65 l1_8 x24_2).f2.f1)) ∧ w'.cell? ⟨(ad167.add ((x24_2).toNat * 14)).block,(ad167.add ((x24_2).toNat * 14)).off + 7,none⟩ = some (.int .i64 ((rd_T65 l1_8 x24_2).f2.f2)) ∧ w'.cell? ⟨(ad167.add ((x24_2).toNat * 14)).block,(ad167.add ((x24_2).toNat * 14)).off + 8,none⟩ = some (.int .i64 ((rd_T65 l1_8 x24_2).f2.f3)) ∧ w'.cell? ⟨(ad167.add ((x24_2).toNat * 14)).block,(ad167.add ((x24_2).toNat * 14)).off + 9,none⟩ = some (.int .i64 ((rd_T65 l1_8 x24_2).f2.f4)) ∧ w'.cell? ⟨(ad167.add ((x24_2).toNat * 14)).block,(ad167.add ((x24_2).toNat * 14)).off + 10,none⟩ = some (.int .i64 ((rd_T65 l1_8 x24_2).f2.f5)) ∧ w'.cell? ⟨(ad167.add ((x24_2).toNat * 14)).block,(ad167.add ((x24_2).toNat * 14)).off + 11,none⟩ = some (.int .i64 ((rd_T65 l1_8 x24_2).f3)) ∧ w'.cell? ⟨(ad167.add ((x24_2).toNat * 14)).block,(ad167.add ((x24_2).toNat * 14)).off + 12,none⟩ = some (.slice A167_12 ((rd_T65 l1_8 x24_2).f4).length c167_12) ∧ w'.cell? ⟨(ad167.add ((x24_2).toNat * 14)).block,(ad167.add ((x24_2).toNat * 14)).off + 13,none⟩ = some (.int .i64 ((rd_T65 l1_8 x24_2).f5))) (ds:=[]) #[false,false,false,false,false,false,false,false,false,false,false,false] (by kernel_rfl) rfl rfl ⟨(bc BK163.out 0).trans rfl,(bc BK163.out 1).trans rfl,(bc BK163.out 2).trans rfl,(bc BK163.out 3).trans rfl,(bc BK163.out 4).trans rfl,(bc BK163.out 5).trans rfl,(bc BK163.out 6).trans rfl,(bc BK163.out 7).trans rfl,(bc BK163.out 8).trans rfl,(bc BK163.out 9).trans rfl,(bc BK164.out 0).trans rfl,(bc BK164.out 1).trans rfl,(bc BK164.out 2).trans rfl,(bc BK164.out 3).trans rfl,(bc BK164.out 4).trans rfl,(bc BK164.out 5).trans rfl,(bc BK164.out 6).trans rfl,(bc BK164.out 7).trans rfl,(bc BK164.out 8).trans rfl,(bc BK164.out 9).trans rfl,((HB.out.cell (World.block_lt_of_cell? w _ hw166_0)).trans hw166_0),((HB.out.cell (World.block_lt_of_cell? w _ hw166_1)).trans hw166_1),((HB.out.cell (World.block_lt_of_cell? w _ hw166_2)).trans hw166_2),((HB.out.cell (World.block_lt_of_cell? w _ hw166_3)).trans hw166_3),((HB.out.cell (World.block_lt_of_cell? w _ hw166_4)).trans hw166_4),((HB.out.cell (World.block_lt_of_cell? w _ hw166_5)).trans hw166_5),((HB.out.cell (World.block_lt_of_cell? w _ hw166_6)).trans hw166_6),((HB.out.cell (World.block_lt_of_cell? w _ hw166_7)).trans hw166_7),((HB.out.cell (World.block_lt_of_cell? w _ hw166_8)).trans hw166_8),((HB.out.cell (World.block_lt_of_cell? w _ hw166_9)).trans hw166_9),((HB.out.cell (World.block_lt_of_cell? w _ hw166_10)).trans hw166_10),((HB.out.cell (World.block_lt_of_cell? w _ hw166_11)).trans hw166_11),((HB.out.cell (World.block_lt_of_cell? w _ hw166_12)).trans hw166_12),((HB.out.cell (World.block_lt_of_cell? w _ hw166_13)).trans hw166_13),((HB.out.cell (World.block_lt_of_cell? w _ hw167_0)).trans hw167_0),((HB.out.cell (World.block_lt_of_cell? w _ hw167_1)).trans hw167_1),((HB.out.cell (World.block_lt_of_cell? w _ hw167_2)).trans hw167_2),((HB.out.cell (World.block_lt_of_cell? w _ hw167_3)).trans hw167_3),((HB.out.cell (World.block_lt_of_cell? w _ hw167_4)).trans hw167_4),((HB.out.cell (World.block_lt_of_cell? w _ hw167_5)).trans hw167_5),((HB.out.cell (World.block_lt_of_cell? w _ hw167_6)).trans hw167_6),((HB.out.cell (World.block_lt_of_cell? w _ hw167_7)).trans hw167_7),((HB.out.cell (World.block_lt_of_cell? w _ hw167_8)).trans hw167_8),((HB.out.cell (World.block_lt_of_cell? w _ hw167_9)).trans hw167_9),((HB.out.cell (World.block_lt_of_cell? w _ hw167_10)).trans hw167_10),((HB.out.cell (World.block_lt_of_cell? w _ hw167_11)).trans hw167_11),((HB.out.cell (World.block_lt_of_cell? w _ hw167_12)).trans hw167_12),((HB.out.cell (World.block_lt_of_cell? w _ hw167_13)).trans hw167_13)⟩ (fun hHeld => ?_);refine with_tabW shape_same.tab6 shape_same.bits6 (fun HT_ HW_ => ?_);generalize wr.drew = w23 at BK163 BK164 HB HR166_12 HR167_12 hx166_0 hx166_1 hx166_10 hx166_11 hx166_12 hx166_13 hx166_2 hx166_3 hx166_4 hx166_5 hx166_6 hx166_7 hx166_8 hx166_9 hx167_0 hx167_1 hx167_10 hx167_11 hx167_12 hx167_13 hx167_2 hx167_3 hx167_4 hx167_5 hx167_6 hx167_7 hx167_8 hx167_9 hHeld ⊢;refine pure_ (i:=0) (N:=some 27) (v:=?_) (a':=?_) #[true,false,false,false,false,false,false,false,false,false,false,false] rfl rfl (any_of HT_.out (by kernel_rfl)) (fun _ _ _ h => h) (Or.inl ⟨by rfl,?_⟩) ?_ ?_
                      rotate_left
                      · intro w'
                        go_simp
                        with_reducible rfl
                      rotate_left
                      · simp only [Act.put,q1,q2,q3,i64_w,i32_w]
                        rfl
                      refine pure_ (i:=2) (N:=some 29) (v:=?_) (a':=?_) #[true,false,true,false,false,false,false,false,false,false,false,false] rfl rfl (any_of HT_.out (by kernel_rfl)) (fun _ _ _ h => h) (Or.inl ⟨by rfl,?_⟩) ?_ ?_
                      rotate_left
                      · intro w'
                        go_simp
                        with_reducible rfl
                      rotate_left
                      · simp only [Act.put,q1,q2,q3,i64_w,i32_w]
                        rfl
                      refine pure_ (i:=5) (N:=some 32) (v:=?_) (a':=?_) #[true,false,true,false,false,true,false,false,false,false,false,false] rfl rfl (any_of HT_.out (by kernel_rfl)) (fun _ _ _ h => h) (Or.inl ⟨by rfl,?_⟩) ?_ ?_
                      rotate_left
                      · intro w'
                        go_simp
                        with_reducible rfl
                      rotate_left
                      · simp only [Act.put,q1,q2,q3,i64_w,i32_w]
                        rfl
                      refine pure_ (i:=7) (N:=some 34) (v:=?_) (a':=?_) #[true,false,true,false,false,true,false,true,false,false,false,false] rfl rfl (any_of HT_.out (by kernel_rfl)) (fun _ _ _ h => h) (Or.inl ⟨by rfl,?_⟩) ?_ ?_
                      rotate_left
                      · intro w'
                        go_simp
                        with_reducible rfl
                      rotate_left
                      · simp only [Act.put,q1,q2,q3,i64_w,i32_w]
                        rfl
                      refine take_ (i:=1) (N:=some 28) (v:=?_) (a':=?_) #[true,true,true,false,false,true,false,true,false,false,false,false] rfl rfl (take_ofW HT_.out HW_.out (by kernel_rfl)) (fun _ _ _ h => h) (Or.inl ⟨by rfl,?_⟩) hHeld ?_ ?_
                      rotate_left
                      · rintro w' ⟨s0,s1,s2,s3,s4,s5,s6,s7,s8,s9,s10,s11,s12,s13,s14,s15,s16,s17,s18,s19,s20,s21,s22,s23,s24,s25,s26,s27,s28,s29,s30,s31,s32,s33,s34,s35,s36,s37,s38,s39,s40,s41,s42,s43,s44,s45,s46,s47⟩
                        go_simp
                        with_reducible rfl
                      rotate_left
                      · simp only [Act.put,q1,q2,q3,i64_w,i32_w]
                        rfl
                      refine pure_ (i:=3) (N:=some 30) (v:=?_) (a':=?_) #[true,true,true,true,false,true,false,true,false,false,false,false] rfl rfl (any_of HT_.out (by kernel_rfl)) (fun _ _ _ h => h) (Or.inl ⟨by rfl,?_⟩) ?_ ?_
                      rotate_left
                      · intro w'
                        go_simp
                        with_reducible rfl
                      rotate_left
                      · simp only [Act.put,q1,q2,q3,i64_w,i32_w]
                        rfl
                      refine take_ (i:=4) (N:=some 31) (v:=?_) (a':=?_) #[true,true,true,true,true,true,false,true,false,false,false,false] rfl rfl (take_ofW HT_.out HW_.out (by kernel_rfl)) (fun _ _ _ h => h) (Or.inl ⟨by rfl,?_⟩) hHeld ?_ ?_
                      rotate_left
                      · rintro w' ⟨s0,s1,s2,s3,s4,s5,s6,s7,s8,s9,s10,s11,s12,s13,s14,s15,s16,s17,s18,s19,s20,s21,s22,s23,s24,s25,s26,s27,s28,s29,s30,s31,s32,s33,s34,s35,s36,s37,s38,s39,s40,s41,s42,s43,s44,s45,s46,s47⟩
                        go_simp
                        with_reducible rfl
                      rotate_left
                      · simp only [Act.put,q1,q2,q3,i64_w,i32_w]
                        rfl
                      refine take_ (i:=6) (N:=some 33) (v:=?_) (a':=?_) #[true,true,true,true,true,true,true,true,false,false,false,false] rfl rfl (take_ofW HT_.out HW_.out (by kernel_rfl)) (fun _ _ _ h => h) (Or.inl ⟨by rfl,?_⟩) hHeld ?_ ?_
                      rotate_left
                      · rintro w' ⟨s0,s1,s2,s3,s4,s5,s6,s7,s8,s9,s10,s11,s12,s13,s14,s15,s16,s17,s18,s19,s20,s21,s22,s23,s24,s25,s26,s27,s28,s29,s30,s31,s32,s33,s34,s35,s36,s37,s38,s39,s40,s41,s42,s43,s44,s45,s46,s47⟩
                        go_simp
                        with_reducible rfl
                      rotate_left
                      · simp only [Act.put,q1,q2,q3,i64_w,i32_w]
                        rfl
                      refine pure_ (i:=8) (N:=some 35) (v:=?_) (a':=?_) #[true,true,true,true,true,true,true,true,true,false,false,false] rfl rfl (any_of HT_.out (by kernel_rfl)) (fun _ _ _ h => h) (Or.inl ⟨by rfl,?_⟩) ?_ ?_
                      rotate_left
                      · intro w'
                        go_simp
                        with_reducible rfl
                      rotate_left
                      · simp only [Act.put,q1,q2,q3,i64_w,i32_w]
                        rfl
                      refine take_ (i:=9) (N:=some 36) (v:=?_) (a':=?_) #[true,true,true,true,true,true,true,true,true,true,false,false] rfl rfl (take_ofW HT_.out HW_.out (by kernel_rfl)) (fun _ _ _ h => h) (Or.inl ⟨by rfl,?_⟩) hHeld ?_ ?_
                      rotate_left
                      · rintro w' ⟨s0,s1,s2,s3,s4,s5,s6,s7,s8,s9,s10,s11,s12,s13,s14,s15,s16,s17,s18,s19,s20,s21,s22,s23,s24,s25,s26,s27,s28,s29,s30,s31,s32,s33,s34,s35,s36,s37,s38,s39,s40,s41,s42,s43,s44,s45,s46,s47⟩
                        go_simp
                        with_reducible rfl
                      rotate_left
                      · simp only [Act.put,q1,q2,q3,i64_w,i32_w]
                        rfl
                      refine one_ (i:=10) (N:=some 37) #[true,true,true,true,true,true,true,true,true,true,true,false] rfl rfl (one_of HT_.out (by kernel_rfl)) (by decide) (fun K hK => ?_);refine goes_ Try.func53 (by kernel_rfl) rfl #[.agg #[.int .i64 ((rd_T65 l0_8 x24_2).f0),.int .i64 ((rd_T65 l0_8 x24_2).f1.f0),.int .i64 ((rd_T65 l0_8 x24_2).f1.f1),.int .i64 ((rd_T65 l0_8 x24_2).f1.f2),.int .i64 ((rd_T65 l0_8 x24_2).f1.f3),.int .i64 ((rd_T65 l0_8 x24_2).f2.f0),.int .i64 ((rd_T65 l0_8 x24_2).f2.f1),.int .i64 ((rd_T65 l0_8 x24_2).f2.f2),.int .i64 ((rd_T65 l0_8 x24_2).f2.f3),.int .i64 ((rd_T65 l0_8 x24_2).f2.f4),.int .i64 ((rd_T65 l0_8 x24_2).f2.f5),.int .i64 ((rd_T65 l0_8 x24_2).f3),.slice A166_12 ((rd_T65 l0_8 x24_2).f4).length c166_12,.int .i64 ((rd_T65 l0_8 x24_2).f5)],.agg #[.int .i64 ((rd_T65 l1_8 x24_2).f0),.int .i64 ((rd_T65 l1_8 x24_2).f1.f0),.int .i64 ((rd_T65 l1_8 x24_2).f1.f1),.int .i64 ((rd_T65 l1_8 x24_2).f1.f2),.int .i64 ((rd_T65 l1_8 x24_2).f1.f3),.int .i64 ((rd_T65 l1_8 x24_2).f2.f0),.int .i64 ((rd_T65 l1_8 x24_2).f2.f1),.int .i64 ((rd_T65 l1_8 x24_2).f2.f2),.int .i64 ((rd_T65 l1_8 x24_2).f2.f3),.int .i64 ((rd_T65 l1_8 x24_2).f2.f4),.int .i64 ((rd_T65 l1_8 x24_2).f2.f5),.int .i64 ((rd_T65 l1_8 x24_2).f3),.slice A167_12 ((rd_T65 l1_8 x24_2).f4).length c167_12,.int .i64 ((rd_T65 l1_8 x24_2).f5)]] (by rfl) rfl rfl (by (try simp only [List.map_toArray,List.map_cons,List.map_nil]);first|done|rfl|(simp only [List.length_drop,List.length_take];rfl)) ?_
                      with_reducible refine (style_SameFill.calls k2 ((rd_T65 l0_8 x24_2).f0) ((rd_T65 l0_8 x24_2).f1.f0) ((rd_T65 l0_8 x24_2).f1.f1) ((rd_T65 l0_8 x24_2).f1.f2) ((rd_T65 l0_8 x24_2).f1.f3) ((rd_T65 l0_8 x24_2).f2.f0) ((rd_T65 l0_8 x24_2).f2.f1) ((rd_T65 l0_8 x24_2).f2.f2) ((rd_T65 l0_8 x24_2).f2.f3) ((rd_T65 l0_8 x24_2).f2.f4) ((rd_T65 l0_8 x24_2).f2.f5) ((rd_T65 l0_8 x24_2).f3) _ _ ((rd_T65 l0_8 x24_2).f4) ((rd_T65 l0_8 x24_2).f5) ((rd_T65 l1_8 x24_2).f0) ((rd_T65 l1_8 x24_2).f1.f0) ((rd_T65 l1_8 x24_2).f1.f1) ((rd_T65 l1_8 x24_2).f1.f2) ((rd_T65 l1_8 x24_2).f1.f3) ((rd_T65 l1_8 x24_2).f2.f0) ((rd_T65 l1_8 x24_2).f2.f1) ((rd_T65 l1_8 x24_2).f2.f2) ((rd_T65 l1_8 x24_2).f2.f3) ((rd_T65 l1_8 x24_2).f2.f4) ((rd_T65 l1_8 x24_2).f2.f5) ((rd_T65 l1_8 x24_2).f3) _ _ ((rd_T65 l1_8 x24_2).f4) ((rd_T65 l1_8 x24_2).f5) true _ ?side1 ?side2 ?side3 ?side4 A21.out).mono ?_
                      (case side1 => repeat (first|exact (Kd.C_below HR166_12.out HB.out)|(with_reducible refine Kd.C_alloc ?_ _)|(with_reducible refine Kd.C_drewN ?_ _)|(with_reducible refine Kd.C_drew ?_)))
                      (case side2 => exact HC166_12.out)
                      (case side3 => repeat (first|exact (Kd.C_below HR167_12.out HB.out)|(with_reducible refine Kd.C_alloc ?_ _)|(with_reducible refine Kd.C_drewN ?_ _)|(with_reducible refine Kd.C_drew ?_)))
                      (case side4 => exact HC167_12.out)
                      rintro e w24 ⟨rfl,hb⟩
                      refine ⟨_,rfl,?_⟩;replace BK163:=am (bw (by exact BK163.out) hb);replace BK164:=am (bw (by exact BK164.out) hb);replace HB:=am (ss (by repeat (first|(with_reducible first|exact HB.out|apply sa|apply sn|apply sd|refine sy ?_ (by assumption))|exact HB.out)) hb);(try clear hb);(try clear hb2);(try clear hk);(try clear hi);refine hK.out _ _ ⟨(bc BK163.out 0).trans rfl,(bc BK163.out 1).trans rfl,(bc BK163.out 2).trans rfl,(bc BK163.out 3).trans rfl,(bc BK163.out 4).trans rfl,(bc BK163.out 5).trans rfl,(bc BK163.out 6).trans rfl,(bc BK163.out 7).trans rfl,(bc BK163.out 8).trans rfl,(bc BK163.out 9).trans rfl,(bc BK164.out 0).trans rfl,(bc BK164.out 1).trans rfl,(bc BK164.out 2).trans rfl,(bc BK164.out 3).trans rfl,(bc BK164.out 4).trans rfl,(bc BK164.out 5).trans rfl,(bc BK164.out 6).trans rfl,(bc BK164.out 7).trans rfl,(bc BK164.out 8).trans rfl,(bc BK164.out 9).trans rfl,((HB.out.cell (World.block_lt_of_cell? w _ hw166_0)).trans hw166_0),((HB.out.cell (World.block_lt_of_cell? w _ hw166_1)).trans hw166_1),((HB.out.cell (World.block_lt_of_cell? w _ hw166_2)).trans hw166_2),((HB.out.cell (World.block_lt_of_cell? w _ hw166_3)).trans hw166_3),((HB.out.cell (World.block_lt_of_cell? w _ hw166_4)).trans hw166_4),((HB.out.cell (World.block_lt_of_cell? w _ hw166_5)).trans hw166_5),((HB.out.cell (World.block_lt_of_cell? w _ hw166_6)).trans hw166_6),((HB.out.cell (World.block_lt_of_cell? w _ hw166_7)).trans hw166_7),((HB.out.cell (World.block_lt_of_cell? w _ hw166_8)).trans hw166_8),((HB.out.cell (World.block_lt_of_cell? w _ hw166_9)).trans hw166_9),((HB.out.cell (World.block_lt_of_cell? w _ hw166_10)).trans hw166_10),((HB.out.cell (World.block_lt_of_cell? w _ hw166_11)).trans hw166_11),((HB.out.cell (World.block_lt_of_cell? w _ hw166_12)).trans hw166_12),((HB.out.cell (World.block_lt_of_cell? w _ hw166_13)).trans hw166_13),((HB.out.cell (World.block_lt_of_cell? w _ hw167_0)).trans hw167_0),((HB.out.cell (World.block_lt_of_cell? w _ hw167_1)).trans hw167_1),((HB.out.cell (World.block_lt_of_cell? w _ hw167_2)).trans hw167_2),((HB.out.cell (World.block_lt_of_cell? w _ hw167_3)).trans hw167_3),((HB.out.cell (World.block_lt_of_cell? w _ hw167_4)).trans hw167_4),((HB.out.cell (World.block_lt_of_cell? w _ hw167_5)).trans hw167_5),((HB.out.cell (World.block_lt_of_cell? w _ hw167_6)).trans hw167_6),((HB.out.cell (World.block_lt_of_cell? w _ hw167_7)).trans hw167_7),((HB.out.cell (World.block_lt_of_cell? w _ hw167_8)).trans hw167_8),((HB.out.cell (World.block_lt_of_cell? w _ hw167_9)).trans hw167_9),((HB.out.cell (World.block_lt_of_cell? w _ hw167_10)).trans hw167_10),((HB.out.cell (World.block_lt_of_cell? w _ hw167_11)).trans hw167_11),((HB.out.cell (World.block_lt_of_cell? w _ hw167_12)).trans hw167_12),((HB.out.cell (World.block_lt_of_cell? w _ hw167_13)).trans hw167_13)⟩ (fun hHeld => ?_);clear hK K;refine norm_ (a':=?_) ?_ ?_
                      rotate_left
                      · show Act.put _ (some 37) _ = _
                        simp only [Act.put,q1,q2,q3,i64_w,i32_w]
                        rfl
                      refine pure_ (i:=11) (N:=some 38) (v:=?_) (a':=?_) #[true,true,true,true,true,true,true,true,true,true,true,true] rfl rfl (any_of HT_.out (by kernel_rfl)) (fun _ _ _ h => h) (Or.inl ⟨by rfl,?_⟩) ?_ ?_
                      rotate_left
                      · intro w'
                        go_simp
                        with_reducible rfl
                      rotate_left
                      · simp only [Act.put,q1,q2,q3,i64_w,i32_w]
                        rfl
                      refine done_ (done_of HT_.out (by kernel_rfl)) ?_
                      try go_wp2
                      go_roundg k2
                      case measure => have:=HJ2.out;have:=HK2.out;omega
                      case rel => exact ⟨(wrap64 (x24_2 + 1)),(by first|rfl|(simp;done)|(simp [*];done)),H',⟨by have:=HJ2.out;have:=HK2.out;omega⟩,⟨by exact BK163.out⟩,⟨by exact BK164.out⟩,⟨by repeat (first|(with_reducible first|exact HB.out|apply sa|apply sn|apply sd|refine sy ?_ (by assumption))|exact HB.out)⟩⟩
                    · replace c22:=Bool.eq_false_iff.mpr c22
                      subst c22
                      have H1 : (some false) = some r:=by rw [if_neg (show ¬ (false = true) by decide)] at H;exact H
                      clear H;have H:=H1;clear H1;obtain rfl:=Option.some.inj H
                      try go_wp2
                      replace BK163:=am (bd BK163.out);replace BK164:=am (bd BK164.out);replace HB:=am (sd HB.out);have p166 : 0 ≤ (x24_2 : Int):=of_decide_eq_true (by first|(with_reducible assumption)|assumption);have q166 : x24_2 < (l0_8.length : Int):=of_decide_eq_true (by first|(with_reducible assumption)|assumption);obtain ⟨ad166,A166_12,c166_12,e166,hx166_0,hx166_1,hx166_2,hx166_3,hx166_4,hx166_5,hx166_6,hx166_7,hx166_8,hx166_9,hx166_10,hx166_11,hx166_12,hx166_13,hl166_12,hi166_12⟩:=at_T65 HR0_8.out x24_2 p166 q166;have hw166_13:=hx166_13;have hw166_12:=hx166_12;have hw166_11:=hx166_11;have hw166_10:=hx166_10;have hw166_9:=hx166_9;have hw166_8:=hx166_8;have hw166_7:=hx166_7;have hw166_6:=hx166_6;have hw166_5:=hx166_5;have hw166_4:=hx166_4;have hw166_3:=hx166_3;have hw166_2:=hx166_2;have hw166_1:=hx166_1;have hw166_0:=hx166_0
                      cases e166
                      replace hx166_0:=(HB.out.cell (World.block_lt_of_cell? w _ hx166_0)).trans hx166_0;replace hx166_1:=(HB.out.cell (World.block_lt_of_cell? w _ hx166_1)).trans hx166_1;replace hx166_2:=(HB.out.cell (World.block_lt_of_cell? w _ hx166_2)).trans hx166_2;replace hx166_3:=(HB.out.cell (World.block_lt_of_cell? w _ hx166_3)).trans hx166_3;replace hx166_4:=(HB.out.cell (World.block_lt_of_cell? w _ hx166_4)).trans hx166_4;replace hx166_5:=(HB.out.cell (World.block_lt_of_cell? w _ hx166_5)).trans hx166_5;replace hx166_6:=(HB.out.cell (World.block_lt_of_cell? w _ hx166_6)).trans hx166_6;replace hx166_7:=(HB.out.cell (World.block_lt_of_cell? w _ hx166_7)).trans hx166_7;replace hx166_8:=(HB.out.cell (World.block_lt_of_cell? w _ hx166_8)).trans hx166_8;replace hx166_9:=(HB.out.cell (World.block_lt_of_cell? w _ hx166_9)).trans hx166_9;replace hx166_10:=(HB.out.cell (World.block_lt_of_cell? w _ hx166_10)).trans hx166_10;replace hx166_11:=(HB.out.cell (World.block_lt_of_cell? w _ hx166_11)).trans hx166_11;replace hx166_12:=(HB.out.cell (World.block_lt_of_cell? w _ hx166_12)).trans hx166_12;replace hx166_13:=(HB.out.cell (World.block_lt_of_cell? w _ hx166_13)).trans hx166_13;have HR166_12:=am hi166_12;have HC166_12:=am hl166_12;clear hi166_12 hl166_12;replace p166:=eq_true p166;replace q166:=eq_true q166;have p167 : 0 ≤ (x24_2 : Int):=of_decide_eq_true (by first|(with_reducible assumption)|assumption);have q167 : x24_2 < (l1_8.length : Int):=of_decide_eq_true (by first|(with_reducible assumption)|assumption);obtain ⟨ad167,A167_12,c167_12,e167,hx167_0,hx167_1,hx167_2,hx167_3,hx167_4,hx167_5,hx167_6,hx167_7,hx167_8,hx167_9,hx167_10,hx167_11,hx167_12,hx167_13,hl167_12,hi167_12⟩:=at_T65 HR1_8.out x24_2 p167 q167;have hw167_13:=hx167_13;have hw167_12:=hx167_12;have hw167_11:=hx167_11;have hw167_10:=hx167_10;have hw167_9:=hx167_9;have hw167_8:=hx167_8;have hw167_7:=hx167_7;have hw167_6:=hx167_6;have hw167_5:=hx167_5;have hw167_4:=hx167_4;have hw167_3:=hx167_3;have hw167_2:=hx167_2;have hw167_1:=hx167_1;have hw167_0:=hx167_0
                      cases e167
                      replace hx167_0:=(HB.out.cell (World.block_lt_of_cell? w _ hx167_0)).trans hx167_0;replace hx167_1:=(HB.out.cell (World.block_lt_of_cell? w _ hx167_1)).trans hx167_1;replace hx167_2:=(HB.out.cell (World.block_lt_of_cell? w _ hx167_2)).trans hx167_2;replace hx167_3:=(HB.out.cell (World.block_lt_of_cell? w _ hx167_3)).trans hx167_3;replace hx167_4:=(HB.out.cell (World.block_lt_of_cell? w _ hx167_4)).trans hx167_4;replace hx167_5:=(HB.out.cell (World.block_lt_of_cell? w _ hx167_5)).trans hx167_5;replace hx167_6:=(HB.out.cell (World.block_lt_of_cell? w _ hx167_6)).trans hx167_6;replace hx167_7:=(HB.out.cell (World.block_lt_of_cell? w _ hx167_7)).trans hx167_7;replace hx167_8:=(HB.out.cell (World.block_lt_of_cell? w _ hx167_8)).trans hx167_8;replace hx167_9:=(HB.out.cell (World.block_lt_of_cell? w _ hx167_9)).trans hx167_9;replace hx167_10:=(HB.out.cell (World.block_lt_of_cell? w _ hx167_10)).trans hx167_10;replace hx167_11:=(HB.out.cell (World.block_lt_of_cell? w _ hx167_11)).trans hx167_11;replace hx167_12:=(HB.out.cell (World.block_lt_of_cell? w _ hx167_12)).trans hx167_12;replace hx167_13:=(HB.out.cell (World.block_lt_of_cell? w _ hx167_13)).trans hx167_13;have HR167_12:=am hi167_12;have HC167_12:=am hl167_12;clear hi167_12 hl167_12;replace p167:=eq_true p167;replace q167:=eq_true q167;refine start_ (n:=12) (S:=fun w' => w'.cell? ⟨gb163,0,none⟩ = some (.int .i64 a0_0) ∧ w'.cell? ⟨gb163,1,none⟩ = some (.int .i64 a0_1) ∧ w'.cell? ⟨gb163,2,none⟩ = some (.int .i64 a0_2) ∧ w'.cell? ⟨gb163,3,none⟩ = some (.int .i64 a0_3) ∧ w'.cell? ⟨gb163,4,none⟩ = some (.int .i64 a0_4) ∧ w'.cell? ⟨gb163,5,none⟩ = some (.int .i64 a0_5) ∧ w'.cell? ⟨gb163,6,none⟩ = some (.int .i64 a0_6) ∧ w'.cell? ⟨gb163,7,none⟩ = some (.int .i64 a0_7) ∧ w'.cell? ⟨gb163,8,none⟩ = some (.slice (some ad166) l0_8.length c0_8) ∧ w'.cell? ⟨gb163,9,none⟩ = some (.slice A0_9 l0_9.length c0_9) ∧ w'.cell? ⟨gb164,0,none⟩ = some (.int .i64 a1_0) ∧ w'.cell? ⟨gb164,1,none⟩ = some (.int .i64 a1_1) ∧ w'.cell? ⟨gb164,2,none⟩ = some (.int .i64 a1_2) ∧ w'.cell? ⟨gb164,3,none⟩ = some (.int .i64 a1_3) ∧ w'.cell? ⟨gb164,4,none⟩ = some (.int .i64 a1_4) ∧ w'.cell? ⟨gb164,5,none⟩ = some (.int .i64 a1_5) ∧ w'.cell? ⟨gb164,6,none⟩ = some (.int .i64 a1_6) ∧ w'.cell? ⟨gb164,7,none⟩ = some (.int .i64 a1_7) ∧ w'.cell? ⟨gb164,8,none⟩ = some (.slice (some ad167) l1_8.length c1_8) ∧ w'.cell? ⟨gb164,9,none⟩ = some (.slice A1_9 l1_9.length c1_9) ∧ w'.cell? (ad166.add ((x24_2).toNat * 14)) = some (.int .i64 ((rd_T65 l0_8 x24_2).f0)) ∧ w'.cell? ⟨(ad166.add ((x24_2).toNat * 14)).block,(ad166.add ((x24_2).toNat * 14)).off + 1,none⟩ = some (.int .i64 ((rd_T65 l0_8 x24_2).f1.f0)) ∧ w'.cell? ⟨(ad166.add ((x24_2).toNat * 14)).block,(ad166.add ((x24_2).toNat * 14)).off + 2,none⟩ = some (.int .i64 ((rd_T65 l0_8 x24_2).f1.f1)) ∧ w'.cell? ⟨(ad166.add ((x24_2).toNat * 14)).block,(ad166.add ((x24_2).toNat * 14)).off + 3,none⟩ = some (.int .i64 ((rd_T65 l0_8 x24_2).f1.f2)) ∧ w'.cell? ⟨(ad166.add ((x24_2).toNat * 14)).block,(ad166.add ((x24_2).toNat * 14)).off + 4,none⟩ = some (.int .i64 ((rd_T65 l0_8 x24_2).f1.f3)) ∧ w'.cell? ⟨(ad166.add ((x24_2).toNat * 14)).block,(ad166.add ((x24_2).toNat * 14)).off + 5,none⟩ = some (.int .i64 ((rd_T65 l0_8 x24_2).f2.f0)) ∧ w'.cell? ⟨(ad166.add ((x24_2).toNat * 14)).block,(ad166.add ((x24_2).toNat * 14)).off + 6,none⟩ = some (.int .i64 ((rd_T65 l0_8 x24_2).f2.f1)) ∧ w'.cell? ⟨(ad166.add ((x24_2).toNat * 14)).block,(ad166.add ((x24_2).toNat * 14)).off + 7,none⟩ = some (.int .i64 ((rd_T65 l0_8 x24_2).f2.f2)) ∧ w'.cell? ⟨(ad166.add ((x24_2).toNat * 14)).block,(ad166.add ((x24_2).toNat * 14)).off + 8,none⟩ = some (.int .i64 ((rd_T65 l0_8 x24_2).f2.f3)) ∧ w'.cell? ⟨(ad166.add ((x24_2).toNat * 14)).block,(ad166.add ((x24_2).toNat * 14)).off + 9,none⟩ = some (.int .i64 ((rd_T65 l0_8 x24_2).f2.f4)) ∧ w'.cell? ⟨(ad166.add ((x24_2).toNat * 14)).block,(ad166.add ((x24_2).toNat * 14)).off + 10,none⟩ = some (.int .i64 ((rd_T65 l0_8 x24_2).f2.f5)) ∧ w'.cell? ⟨(ad166.add ((x24_2).toNat * 14)).block,(ad166.add ((x24_2).toNat * 14)).off + 11,none⟩ = some (.int .i64 ((rd_T65 l0_8 x24_2).f3)) ∧ w'.cell? ⟨(ad166.add ((x24_2).toNat * 14)).block,(ad166.add ((x24_2).toNat * 14)).off + 12,none⟩ = some (.slice A166_12 ((rd_T65 l0_8 x24_2).f4).length c166_12) ∧ w'.cell? ⟨(ad166.add ((x24_2).toNat * 14)).block,(ad166.add ((x24_2).toNat * 14)).off + 13,none⟩ = some (.int .i64 ((rd_T65 l0_8 x24_2).f5)) ∧ w'.cell? (ad167.add ((x24_2).toNat * 14)) = some (.int .i64 ((rd_T65 l1_8 x24_2).f0)) ∧ w'.cell? ⟨(ad167.add ((x24_2).toNat * 14)).block,(ad167.add ((x24_2).toNat * 14)).off + 1,none⟩ = some (.int .i64 ((rd_T65 l1_8 x24_2).f1.f0)) ∧ w'.cell? ⟨(ad167.add ((x24_2).toNat * 14)).block,(ad167.add ((x24_2).toNat * 14)).off + 2,none⟩ = some (.int .i64 ((rd_T65 l1_8 x24_2).f1.f1)) ∧ w'.cell? ⟨(ad167.add ((x24_2).toNat * 14)).block,(ad167.add ((x24_2).toNat * 14)).off + 3,none⟩ = some (.int .i64 ((rd_T65 l1_8 x24_2).f1.f2)) ∧ w'.cell? ⟨(ad167.add ((x24_2).toNat * 14)).block,(ad167.add ((x24_2).toNat * 14)).off + 4,none⟩ = some (.int .i64 ((rd_T65 l1_8 x24_2).f1.f3)) ∧ w'.cell? ⟨(ad167.add ((x24_2).toNat * 14)).block,(ad167.add ((x24_2).toNat * 14)).off + 5,none⟩ = some (.int .i64 ((rd_T65 l1_8 x24_2).f2.f0)) ∧ w'.cell? ⟨(ad167.add ((x24_2).toNat * 14)).block,(ad167.add ((x24_2).toNat * 14)).off + 6,none⟩ = some (.int .i64 ((rd_T65 l1_8 x24_2).f2.f1)) ∧ w'.cell? ⟨(ad167.add ((x24_2).toNat * 14)).block,(ad167.add ((x24_2).toNat * 14)).off + 7,none⟩ = some (.int .i64 ((rd_T65 l1_8 x24_2).f2.f2)) ∧ w'.cell? ⟨(ad167.add ((x24_2).toNat * 14)).block,(ad167.add ((x24_2).toNat * 14)).off + 8,none⟩ = some (.int .i64 ((rd_T65 l1_8 x24_2).f2.f3)) ∧ w'.cell? ⟨(ad167.add ((x24_2).toNat * 14)).block,(ad167.add ((x24_2).toNat * 14)).off + 9,none⟩ = some (.int .i64 ((rd_T65 l1_8 x24_2).f2.f4)) ∧ w'.cell? ⟨(ad167.add ((x24_2).toNat * 14)).block,(ad167.add ((x24_2).toNat * 14)).off + 10,none⟩ = some (.int .i64 ((rd_T65 l1_8 x24_2).f2.f5)) ∧ w'.cell? ⟨(ad167.add ((x24_2).toNat * 14)).block,(ad167.add ((x24_2).toNat * 14)).off + 11,none⟩ = some (.int .i64 ((rd_T65 l1_8 x24_2).f3)) ∧ w'.cell? ⟨(ad167.add ((x24_2).toNat * 14)).block,(ad167.add ((x24_2).toNat * 14)).off + 12,none⟩ = some (.slice A167_12 ((rd_T65 l1_8 x24_2).f4).length c167_12) ∧ w'.cell? ⟨(ad167.add ((x24_2).toNat * 14)).block,(ad167.add ((x24_2).toNat * 14)).off + 13,none⟩ = some (.int .i64 ((rd_T65 l1_8 x24_2).f5))) (ds:=[]) #[false,false,false,false,false,false,false,false,false,false,false,false] (by kernel_rfl) rfl rfl ⟨(bc BK163.out 0).trans rfl,(bc BK163.out 1).trans rfl,(bc BK163.out 2).trans rfl,(bc BK163.out 3).trans rfl,(bc BK163.out 4).trans rfl,(bc BK163.out 5).trans rfl,(bc BK163.out 6).trans rfl,(bc BK163.out 7).trans rfl,(bc BK163.out 8).trans rfl,(bc BK163.out 9).trans rfl,(bc BK164.out 0).trans rfl,(bc BK164.out 1).trans rfl,(bc BK164.out 2).trans rfl,(bc BK164.out 3).trans rfl,(bc BK164.out 4).trans rfl,(bc BK164.out 5).trans rfl,(bc BK164.out 6).trans rfl,(bc BK164.out 7).trans rfl,(bc BK164.out 8).trans rfl,(bc BK164.out 9).trans rfl,((HB.out.cell (World.block_lt_of_cell? w _ hw166_0)).trans hw166_0),((HB.out.cell (World.block_lt_of_cell? w _ hw166_1)).trans hw166_1),((HB.out.cell (World.block_lt_of_cell? w _ hw166_2)).trans hw166_2),((HB.out.cell (World.block_lt_of_cell? w _ hw166_3)).trans hw166_3),((HB.out.cell (World.block_lt_of_cell? w _ hw166_4)).trans hw166_4),((HB.out.cell (World.block_lt_of_cell? w _ hw166_5)).trans hw166_5),((HB.out.cell (World.block_lt_of_cell? w _ hw166_6)).trans hw166_6),((HB.out.cell (World.block_lt_of_cell? w _ hw166_7)).trans hw166_7),((HB.out.cell (World.block_lt_of_cell? w _ hw166_8)).trans hw166_8),((HB.out.cell (World.block_lt_of_cell? w _ hw166_9)).trans hw166_9),((HB.out.cell (World.block_lt_of_cell? w _ hw166_10)).trans hw166_10),((HB.out.cell (World.block_lt_of_cell? w _ hw166_11)).trans hw166_11),((HB.out.cell (World.block_lt_of_cell? w _ hw166_12)).trans hw166_12),((HB.out.cell (World.block_lt_of_cell? w _ hw166_13)).trans hw166_13),((HB.out.cell (World.block_lt_of_cell? w _ hw167_0)).trans hw167_0),((HB.out.cell (World.block_lt_of_cell? w _ hw167_1)).trans hw167_1),((HB.out.cell (World.block_lt_of_cell? w _ hw167_2)).trans hw167_2),((HB.out.cell (World.block_lt_of_cell? w _ hw167_3)).trans hw167_3),((HB.out.cell (World.block_lt_of_cell? w _ hw167_4)).trans hw167_4),((HB.out.cell (World.block_lt_of_cell? w _ hw167_5)).trans hw167_5),((HB.out.cell (World.block_lt_of_cell? w _ hw167_6)).trans hw167_6),((HB.out.cell (World.block_lt_of_cell? w _ hw167_7)).trans hw167_7),((HB.out.cell (World.block_lt_of_cell? w _ hw167_8)).trans hw167_8),((HB.out.cell (World.block_lt_of_cell? w _ hw167_9)).trans hw167_9),((HB.out.cell (World.block_lt_of_cell? w _ hw167_10)).trans hw167_10),((HB.out.cell (World.block_lt_of_cell? w _ hw167_11)).trans hw167_11),((HB.out.cell (World.block_lt_of_cell? w _ hw167_12)).trans hw167_12),((HB.out.cell (World.block_lt_of_cell? w _ hw167_13)).trans hw167_13)⟩ (fun hHeld => ?_);refine with_tabW shape_same.tab6 shape_same.bits6 (fun HT_ HW_ => ?_);generalize wr.drew = w25 at BK163 BK164 HB HR166_12 HR167_12 hx166_0 hx166_1 hx166_10 hx166_11 hx166_12 hx166_13 hx166_2 hx166_3 hx166_4 hx166_5 hx166_6 hx166_7 hx166_8 hx166_9 hx167_0 hx167_1 hx167_10 hx167_11 hx167_12 hx167_13 hx167_2 hx167_3 hx167_4 hx167_5 hx167_6 hx167_7 hx167_8 hx167_9 hHeld ⊢;refine pure_ (i:=0) (N:=some 27) (v:=?_) (a':=?_) #[true,false,false,false,false,false,false,false,false,false,false,false] rfl rfl (any_of HT_.out (by kernel_rfl)) (fun _ _ _ h => h) (Or.inl ⟨by rfl,?_⟩) ?_ ?_
                      rotate_left
                      · intro w'
                        go_simp
                        with_reducible rfl
                      rotate_left
                      · simp only [Act.put,q1,q2,q3,i64_w,i32_w]
                        rfl
                      refine pure_ (i:=2) (N:=some 29) (v:=?_) (a':=?_) #[true,false,true,false,false,false,false,false,false,false,false,false] rfl rfl (any_of HT_.out (by kernel_rfl)) (fun _ _ _ h => h) (Or.inl ⟨by rfl,?_⟩) ?_ ?_
                      rotate_left
                      · intro w'
                        go_simp
                        with_reducible rfl
                      rotate_left
                      · simp only [Act.put,q1,q2,q3,i64_w,i32_w]
                        rfl
                      refine pure_ (i:=5) (N:=some 32) (v:=?_) (a':=?_) #[true,false,true,false,false,true,false,false,false,false,false,false] rfl rfl (any_of HT_.out (by kernel_rfl)) (fun _ _ _ h => h) (Or.inl ⟨by rfl,?_⟩) ?_ ?_
                      rotate_left
                      · intro w'
                        go_simp
                        with_reducible rfl
                      rotate_left
                      · simp only [Act.put,q1,q2,q3,i64_w,i32_w]
                        rfl
                      refine pure_ (i:=7) (N:=some 34) (v:=?_) (a':=?_) #[true,false,true,false,false,true,false,true,false,false,false,false] rfl rfl (any_of HT_.out (by kernel_rfl)) (fun _ _ _ h => h) (Or.inl ⟨by rfl,?_⟩) ?_ ?_
                      rotate_left
                      · intro w'
                        go_simp
                        with_reducible rfl
                      rotate_left
                      · simp only [Act.put,q1,q2,q3,i64_w,i32_w]
                        rfl
                      refine take_ (i:=1) (N:=some 28) (v:=?_) (a':=?_) #[true,true,true,false,false,true,false,true,false,false,false,false] rfl rfl (take_ofW HT_.out HW_.out (by kernel_rfl)) (fun _ _ _ h => h) (Or.inl ⟨by rfl,?_⟩) hHeld ?_ ?_
                      rotate_left
                      · rintro w' ⟨s0,s1,s2,s3,s4,s5,s6,s7,s8,s9,s10,s11,s12,s13,s14,s15,s16,s17,s18,s19,s20,s21,s22,s23,s24,s25,s26,s27,s28,s29,s30,s31,s32,s33,s34,s35,s36,s37,s38,s39,s40,s41,s42,s43,s44,s45,s46,s47⟩
                        go_simp
                        with_reducible rfl
                      rotate_left
                      · simp only [Act.put,q1,q2,q3,i64_w,i32_w]
                        rfl
                      refine pure_ (i:=3) (N:=some 30) (v:=?_) (a':=?_) #[true,true,true,true,false,true,false,true,false,false,false,false] rfl rfl (any_of HT_.out (by kernel_rfl)) (fun _ _ _ h => h) (Or.inl ⟨by rfl,?_⟩) ?_ ?_
                      rotate_left
                      · intro w'
                        go_simp
                        with_reducible rfl
                      rotate_left
                      · simp only [Act.put,q1,q2,q3,i64_w,i32_w]
                        rfl
                      refine take_ (i:=4) (N:=some 31) (v:=?_) (a':=?_) #[true,true,true,true,true,true,false,true,false,false,false,false] rfl rfl (take_ofW HT_.out HW_.out (by kernel_rfl)) (fun _ _ _ h => h) (Or.inl ⟨by rfl,?_⟩) hHeld ?_ ?_
                      rotate_left
                      · rintro w' ⟨s0,s1,s2,s3,s4,s5,s6,s7,s8,s9,s10,s11,s12,s13,s14,s15,s16,s17,s18,s19,s20,s21,s22,s23,s24,s25,s26,s27,s28,s29,s30,s31,s32,s33,s34,s35,s36,s37,s38,s39,s40,s41,s42,s43,s44,s45,s46,s47⟩
                        go_simp
                        with_reducible rfl
                      rotate_left
                      · simp only [Act.put,q1,q2,q3,i64_w,i32_w]
                        rfl
                      refine take_ (i:=6) (N:=some 33) (v:=?_) (a':=?_) #[true,true,true,true,true,true,true,true,false,false,false,false] rfl rfl (take_ofW HT_.out HW_.out (by kernel_rfl)) (fun _ _ _ h => h) (Or.inl ⟨by rfl,?_⟩) hHeld ?_ ?_
                      rotate_left
                      · rintro w' ⟨s0,s1,s2,s3,s4,s5,s6,s7,s8,s9,s10,s11,s12,s13,s14,s15,s16,s17,s18,s19,s20,s21,s22,s23,s24,s25,s26,s27,s28,s29,s30,s31,s32,s33,s34,s35,s36,s37,s38,s39,s40,s41,s42,s43,s44,s45,s46,s47⟩
                        go_simp
                        with_reducible rfl
                      rotate_left
                      · simp only [Act.put,q1,q2,q3,i64_w,i32_w]
                        rfl
                      refine pure_ (i:=8) (N:=some 35) (v:=?_) (a':=?_) #[true,true,true,true,true,true,true,true,true,false,false,false] rfl rfl (any_of HT_.out (by kernel_rfl)) (fun _ _ _ h => h) (Or.inl ⟨by rfl,?_⟩) ?_ ?_
                      rotate_left
                      · intro w'
                        go_simp
                        with_reducible rfl
                      rotate_left
                      · simp only [Act.put,q1,q2,q3,i64_w,i32_w]
                        rfl
                      refine take_ (i:=9) (N:=some 36) (v:=?_) (a':=?_) #[true,true,true,true,true,true,true,true,true,true,false,false] rfl rfl (take_ofW HT_.out HW_.out (by kernel_rfl)) (fun _ _ _ h => h) (Or.inl ⟨by rfl,?_⟩) hHeld ?_ ?_
                      rotate_left
                      · rintro w' ⟨s0,s1,s2,s3,s4,s5,s6,s7,s8,s9,s10,s11,s12,s13,s14,s15,s16,s17,s18,s19,s20,s21,s22,s23,s24,s25,s26,s27,s28,s29,s30,s31,s32,s33,s34,s35,s36,s37,s38,s39,s40,s41,s42,s43,s44,s45,s46,s47⟩
                        go_simp
                        with_reducible rfl
                      rotate_left
                      · simp only [Act.put,q1,q2,q3,i64_w,i32_w]
                        rfl
                      refine one_ (i:=10) (N:=some 37) #[true,true,true,true,true,true,true,true,true,true,true,false] rfl rfl (one_of HT_.out (by kernel_rfl)) (by decide) (fun K hK => ?_);refine goes_ Try.func53 (by kernel_rfl) rfl #[.agg #[.int .i64 ((rd_T65 l0_8 x24_2).f0),.int .i64 ((rd_T65 l0_8 x24_2).f1.f0),.int .i64 ((rd_T65 l0_8 x24_2).f1.f1),.int .i64 ((rd_T65 l0_8 x24_2).f1.f2),.int .i64 ((rd_T65 l0_8 x24_2).f1.f3),.int .i64 ((rd_T65 l0_8 x24_2).f2.f0),.int .i64 ((rd_T65 l0_8 x24_2).f2.f1),.int .i64 ((rd_T65 l0_8 x24_2).f2.f2),.int .i64 ((rd_T65 l0_8 x24_2).f2.f3),.int .i64 ((rd_T65 l0_8 x24_2).f2.f4),.int .i64 ((rd_T65 l0_8 x24_2).f2.f5),.int .i64 ((rd_T65 l0_8 x24_2).f3),.slice A166_12 ((rd_T65 l0_8 x24_2).f4).length c166_12,.int .i64 ((rd_T65 l0_8 x24_2).f5)],.agg #[.int .i64 ((rd_T65 l1_8 x24_2).f0),.int .i64 ((rd_T65 l1_8 x24_2).f1.f0),.int .i64 ((rd_T65 l1_8 x24_2).f1.f1),.int .i64 ((rd_T65 l1_8 x24_2).f1.f2),.int .i64 ((rd_T65 l1_8 x24_2).f1.f3),.int .i64 ((rd_T65 l1_8 x24_2).f2.f0),.int .i64 ((rd_T65 l1_8 x24_2).f2.f1),.int .i64 ((rd_T65 l1_8 x24_2).f2.f2),.int .i64 ((rd_T65 l1_8 x24_2).f2.f3),.int .i64 ((rd_T65 l1_8 x24_2).f2.f4),.int .i64 ((rd_T65 l1_8 x24_2).f2.f5),.int .i64 ((rd_T65 l1_8 x24_2).f3),.slice A167_12 ((rd_T65 l1_8 x24_2).f4).length c167_12,.int .i64 ((rd_T65 l1_8 x24_2).f5)]] (by rfl) rfl rfl (by (try simp only [List.map_toArray,List.map_cons,List.map_nil]);first|done|rfl|(simp only [List.length_drop,List.length_take];rfl)) ?_
                      with_reducible refine (style_SameFill.calls k2 ((rd_T65 l0_8 x24_2).f0) ((rd_T65 l0_8 x24_2).f1.f0) ((rd_T65 l0_8 x24_2).f1.f1) ((rd_T65 l0_8 x24_2).f1.f2) ((rd_T65 l0_8 x24_2).f1.f3) ((rd_T65 l0_8 x24_2).f2.f0) ((rd_T65 l0_8 x24_2).f2.f1) ((rd_T65 l0_8 x24_2).f2.f2) ((rd_T65 l0_8 x24_2).f2.f3) ((rd_T65 l0_8 x24_2).f2.f4) ((rd_T65 l0_8 x24_2).f2.f5) ((rd_T65 l0_8 x24_2).f3) _ _ ((rd_T65 l0_8 x24_2).f4) ((rd_T65 l0_8 x24_2).f5) ((rd_T65 l1_8 x24_2).f0) ((rd_T65 l1_8 x24_2).f1.f0) ((rd_T65 l1_8 x24_2).f1.f1) ((rd_T65 l1_8 x24_2).f1.f2) ((rd_T65 l1_8 x24_2).f1.f3) ((rd_T65 l1_8 x24_2).f2.f0) ((rd_T65 l1_8 x24_2).f2.f1) ((rd_T65 l1_8 x24_2).f2.f2) ((rd_T65 l1_8 x24_2).f2.f3) ((rd_T65 l1_8 x24_2).f2.f4) ((rd_T65 l1_8 x24_2).f2.f5) ((rd_T65 l1_8 x24_2).f3) _ _ ((rd_T65 l1_8 x24_2).f4) ((rd_T65 l1_8 x24_2).f5) false _ ?side1 ?side2 ?side3 ?side4 A21.out).mono ?_
                      (case side1 => repeat (first|exact (Kd.C_below HR166_12.out HB.out)|(with_reducible refine Kd.C_alloc ?_ _)|(with_reducible refine Kd.C_drewN ?_ _)|(with_reducible refine Kd.C_drew ?_)))
                      (case side2 => exact HC166_12.out)
                      (case side3 => repeat (first|exact (Kd.C_below HR167_12.out HB.out)|(with_reducible refine Kd.C_alloc ?_ _)|(with_reducible refine Kd.C_drewN ?_ _)|(with_reducible refine Kd.C_drew ?_)))
                      (case side4 => exact HC167_12.out)
                      rintro e w26 ⟨rfl,hb⟩
                      refine ⟨_,rfl,?_⟩;replace BK163:=am (bw (by exact BK163.out) hb);replace BK164:=am (bw (by exact BK164.out) hb);replace HB:=am (ss (by repeat (first|(with_reducible first|exact HB.out|apply sa|apply sn|apply sd|refine sy ?_ (by assumption))|exact HB.out)) hb);(try clear hb);(try clear hb2);(try clear hk);(try clear hi);refine hK.out _ _ ⟨(bc BK163.out 0).trans rfl,(bc BK163.out 1).trans rfl,(bc BK163.out 2).trans rfl,(bc BK163.out 3).trans rfl,(bc BK163.out 4).trans rfl,(bc BK163.out 5).trans rfl,(bc BK163.out 6).trans rfl,(bc BK163.out 7).trans rfl,(bc BK163.out 8).trans rfl,(bc BK163.out 9).trans rfl,(bc BK164.out 0).trans rfl,(bc BK164.out 1).trans rfl,(bc BK164.out 2).trans rfl,(bc BK164.out 3).trans rfl,(bc BK164.out 4).trans rfl,(bc BK164.out 5).trans rfl,(bc BK164.out 6).trans rfl,(bc BK164.out 7).trans rfl,(bc BK164.out 8).trans rfl,(bc BK164.out 9).trans rfl,((HB.out.cell (World.block_lt_of_cell? w _ hw166_0)).trans hw166_0),((HB.out.cell (World.block_lt_of_cell? w _ hw166_1)).trans hw166_1),((HB.out.cell (World.block_lt_of_cell? w _ hw166_2)).trans hw166_2),((HB.out.cell (World.block_lt_of_cell? w _ hw166_3)).trans hw166_3),((HB.out.cell (World.block_lt_of_cell? w _ hw166_4)).trans hw166_4),((HB.out.cell (World.block_lt_of_cell? w _ hw166_5)).trans hw166_5),((HB.out.cell (World.block_lt_of_cell? w _ hw166_6)).trans hw166_6),((HB.out.cell (World.block_lt_of_cell? w _ hw166_7)).trans hw166_7),((HB.out.cell (World.block_lt_of_cell? w _ hw166_8)).trans hw166_8),((HB.out.cell (World.block_lt_of_cell? w _ hw166_9)).trans hw166_9),((HB.out.cell (World.block_lt_of_cell? w _ hw166_10)).trans hw166_10),((HB.out.cell (World.block_lt_of_cell? w _ hw166_11)).trans hw166_11),((HB.out.cell (World.block_lt_of_cell? w _ hw166_12)).trans hw166_12),((HB.out.cell (World.block_lt_of_cell? w _ hw166_13)).trans hw166_13),((HB.out.cell (World.block_lt_of_cell? w _ hw167_0)).trans hw167_0),((HB.out.cell (World.block_lt_of_cell? w _ hw167_1)).trans hw167_1),((HB.out.cell (World.block_lt_of_cell? w _ hw167_2)).trans hw167_2),((HB.out.cell (World.block_lt_of_cell? w _ hw167_3)).trans hw167_3),((HB.out.cell (World.block_lt_of_cell? w _ hw167_4)).trans hw167_4),((HB.out.cell (World.block_lt_of_cell? w _ hw167_5)).trans hw167_5),((HB.out.cell (World.block_lt_of_cell? w _ hw167_6)).trans hw167_6),((HB.out.cell (World.block_lt_of_cell? w _ hw167_7)).trans hw167_7),((HB.out.cell (World.block_lt_of_cell? w _ hw167_8)).trans hw167_8),((HB.out.cell (World.block_lt_of_cell? w _ hw167_9)).trans hw167_9),((HB.out.cell (World.block_lt_of_cell? w _ hw167_10)).trans hw167_10),((HB.out.cell (World.block_lt_of_cell? w _ hw167_11)).trans hw167_11),((HB.out.cell (World.block_lt_of_cell? w _ hw167_12)).trans hw167_12),((HB.out.cell (World.block_lt_of_cell? w _ hw167_13)).trans hw167_13)⟩ (fun hHeld => ?_);clear hK K;refine norm_ (a':=?_) ?_ ?_
                      rotate_left
                      · show Act.put _ (some 37) _ = _
                        simp only [Act.put,q1,q2,q3,i64_w,i32_w]
                        rfl
                      refine pure_ (i:=11) (N:=some 38) (v:=?_) (a':=?_) #[true,true,true,true,true,true,true,true,true,true,true,true] rfl rfl (any_of HT_.out (by kernel_rfl)) (fun _ _ _ h => h) (Or.inl ⟨by rfl,?_⟩) ?_ ?_
                      rotate_left
                      · intro w'
                        go_simp
                        with_reducible rfl
                      rotate_left
                      · simp only [Act.put,q1,q2,q3,i64_w,i32_w]
                        rfl
                      refine done_ (done_of HT_.out (by kernel_rfl)) ?_
                      try go_wp2
                      go_ret
                      exact ⟨by first|rfl|(simp [errW_none,errW_some] <;> rfl)|(simp [*,errW_none,errW_some] <;> rfl),by repeat (first|(with_reducible first|exact HB.out|apply sa|apply sn|apply sd|refine sy ?_ (by assumption))|exact HB.out)⟩
                  · rw [if_neg c20] at H
                    exact absurd H (by simp)
                · rw [if_neg c19] at H
                  exact absurd H (by simp)
              · rw [if_neg c18] at H
                exact absurd H (by simp)
            · rw [if_neg c17] at H
              have c17b0 : decide (x24_2 < (l0_8.length : Int)) = false:=decide_eq_false c17;clear c17
              by_cases c27 : a0_0 = a1_0
              · rw [if_pos c27] at H
                have c27b0 : (a0_0 == a1_0) = true:=beq_iff_eq.mpr c27;have c27b1 : (a0_0 != a1_0) = false:=bne_eq_false_iff_eq.mpr c27;clear c27
                by_cases c28 : a0_1 = a1_1
                · rw [if_pos c28] at H
                  have c28b0 : (a0_1 == a1_1) = true:=beq_iff_eq.mpr c28;have c28b1 : (a0_1 != a1_1) = false:=bne_eq_false_iff_eq.mpr c28;clear c28
                  by_cases c29 : a0_2 = a1_2
                  · rw [if_pos c29] at H
                    have c29b0 : (a0_2 == a1_2) = true:=beq_iff_eq.mpr c29;have c29b1 : (a0_2 != a1_2) = false:=bne_eq_false_iff_eq.mpr c29;clear c29
                    by_cases c30 : a0_3 = a1_3
                    · rw [if_pos c30] at H
                      have c30b0 : (a0_3 == a1_3) = true:=beq_iff_eq.mpr c30;have c30b1 : (a0_3 != a1_3) = false:=bne_eq_false_iff_eq.mpr c30;clear c30
                      by_cases c31 : a0_4 = a1_4
                      · rw [if_pos c31] at H
                        have c31b0 : (a0_4 == a1_4) = true:=beq_iff_eq.mpr c31;have c31b1 : (a0_4 != a1_4) = false:=bne_eq_false_iff_eq.mpr c31;clear c31
                        by_cases c32 : a0_5 = a1_5
                        · rw [if_pos c32] at H
                          have c32b0 : (a0_5 == a1_5) = true:=beq_iff_eq.mpr c32;have c32b1 : (a0_5 != a1_5) = false:=bne_eq_false_iff_eq.mpr c32;clear c32
                          by_cases c33 : a0_6 = a1_6
                          · rw [if_pos c33] at H
                            have c33b0 : (a0_6 == a1_6) = true:=beq_iff_eq.mpr c33;have c33b1 : (a0_6 != a1_6) = false:=bne_eq_false_iff_eq.mpr c33;clear c33;obtain rfl:=Option.some.inj H;have hnb34:=NB163_164.out;have hnc34:=NB164_163.out;obtain ⟨hcz35_0,hcz35_1,hcz35_2,hcz35_3,hcz35_4,hcz35_5,hcz35_6,hcz35_7,hcz35_8,hcz35_9⟩:=cq10 BK163.out;obtain ⟨hfz35_0,hfz35_1,hfz35_2,hfz35_3,hfz35_4,hfz35_5,hfz35_6,hfz35_7,hfz35_8,hfz35_9⟩:=fq10 BK163.out;obtain ⟨hcz36_0,hcz36_1,hcz36_2,hcz36_3,hcz36_4,hcz36_5,hcz36_6,hcz36_7,hcz36_8,hcz36_9⟩:=cq10 BK164.out;obtain ⟨hfz36_0,hfz36_1,hfz36_2,hfz36_3,hfz36_4,hfz36_5,hfz36_6,hfz36_7,hfz36_8,hfz36_9⟩:=fq10 BK164.out
                            go_wp2
                            go_ret
                            exact ⟨by first|rfl|(simp [errW_none,errW_some] <;> rfl)|(simp [*,errW_none,errW_some] <;> rfl),by repeat (first|(with_reducible first|exact HB.out|apply sa|apply sn|apply sd|refine sy ?_ (by assumption))|exact HB.out)⟩
                          · rw [if_neg c33] at H
                            have c33b0 : (a0_6 == a1_6) = false:=beq_eq_false_iff_ne.mpr c33;have c33b1 : (a0_6 != a1_6) = true:=bne_iff_ne.mpr c33;obtain rfl:=Option.some.inj H;have hnb37:=NB163_164.out;have hnc37:=NB164_163.out;obtain ⟨hcz38_0,hcz38_1,hcz38_2,hcz38_3,hcz38_4,hcz38_5,hcz38_6,hcz38_7,hcz38_8,hcz38_9⟩:=cq10 BK163.out;obtain ⟨hfz38_0,hfz38_1,hfz38_2,hfz38_3,hfz38_4,hfz38_5,hfz38_6,hfz38_7,hfz38_8,hfz38_9⟩:=fq10 BK163.out;obtain ⟨hcz39_0,hcz39_1,hcz39_2,hcz39_3,hcz39_4,hcz39_5,hcz39_6,hcz39_7,hcz39_8,hcz39_9⟩:=cq10 BK164.out;obtain ⟨hfz39_0,hfz39_1,hfz39_2,hfz39_3,hfz39_4,hfz39_5,hfz39_6,hfz39_7,hfz39_8,hfz39_9⟩:=fq10 BK164.out
                            go_wp2
                            go_ret
                            exact ⟨by first|rfl|(simp [errW_none,errW_some] <;> rfl)|(simp [*,errW_none,errW_some] <;> rfl),by repeat (first|(with_reducible first|exact HB.out|apply sa|apply sn|apply sd|refine sy ?_ (by assumption))|exact HB.out)⟩
                        · rw [if_neg c32] at H
                          have c32b0 : (a0_5 == a1_5) = false:=beq_eq_false_iff_ne.mpr c32;have c32b1 : (a0_5 != a1_5) = true:=bne_iff_ne.mpr c32;obtain rfl:=Option.some.inj H;have hnb40:=NB163_164.out;have hnc40:=NB164_163.out;obtain ⟨hcz41_0,hcz41_1,hcz41_2,hcz41_3,hcz41_4,hcz41_5,hcz41_6,hcz41_7,hcz41_8,hcz41_9⟩:=cq10 BK163.out;obtain ⟨hfz41_0,hfz41_1,hfz41_2,hfz41_3,hfz41_4,hfz41_5,hfz41_6,hfz41_7,hfz41_8,hfz41_9⟩:=fq10 BK163.out;obtain ⟨hcz42_0,hcz42_1,hcz42_2,hcz42_3,hcz42_4,hcz42_5,hcz42_6,hcz42_7,hcz42_8,hcz42_9⟩:=cq10 BK164.out;obtain ⟨hfz42_0,hfz42_1,hfz42_2,hfz42_3,hfz42_4,hfz42_5,hfz42_6,hfz42_7,hfz42_8,hfz42_9⟩:=fq10 BK164.out
                          go_wp2
                          go_ret
                          exact ⟨by first|rfl|(simp [errW_none,errW_some] <;> rfl)|(simp [*,errW_none,errW_some] <;> rfl),by repeat (first|(with_reducible first|exact HB.out|apply sa|apply sn|apply sd|refine sy ?_ (by assumption))|exact HB.out)⟩
                      · rw [if_neg c31] at H
                        have c31b0 : (a0_4 == a1_4) = false:=beq_eq_false_iff_ne.mpr c31;have c31b1 : (a0_4 != a1_4) = true:=bne_iff_ne.mpr c31;obtain rfl:=Option.some.inj H;have hnb43:=NB163_164.out;have hnc43:=NB164_163.out;obtain ⟨hcz44_0,hcz44_1,hcz44_2,hcz44_3,hcz44_4,hcz44_5,hcz44_6,hcz44_7,hcz44_8,hcz44_9⟩:=cq10 BK163.out;obtain ⟨hfz44_0,hfz44_1,hfz44_2,hfz44_3,hfz44_4,hfz44_5,hfz44_6,hfz44_7,hfz44_8,hfz44_9⟩:=fq10 BK163.out;obtain ⟨hcz45_0,hcz45_1,hcz45_2,hcz45_3,hcz45_4,hcz45_5,hcz45_6,hcz45_7,hcz45_8,hcz45_9⟩:=cq10 BK164.out;obtain ⟨hfz45_0,hfz45_1,hfz45_2,hfz45_3,hfz45_4,hfz45_5,hfz45_6,hfz45_7,hfz45_8,hfz45_9⟩:=fq10 BK164.out
                        go_wp2
                        go_ret
                        exact ⟨by first|rfl|(simp [errW_none,errW_some] <;> rfl)|(simp [*,errW_none,errW_some] <;> rfl),by repeat (first|(with_reducible first|exact HB.out|apply sa|apply sn|apply sd|refine sy ?_ (by assumption))|exact HB.out)⟩
                    · rw [if_neg c30] at H
                      have c30b0 : (a0_3 == a1_3) = false:=beq_eq_false_iff_ne.mpr c30;have c30b1 : (a0_3 != a1_3) = true:=bne_iff_ne.mpr c30;obtain rfl:=Option.some.inj H;have hnb46:=NB163_164.out;have hnc46:=NB164_163.out;obtain ⟨hcz47_0,hcz47_1,hcz47_2,hcz47_3,hcz47_4,hcz47_5,hcz47_6,hcz47_7,hcz47_8,hcz47_9⟩:=cq10 BK163.out;obtain ⟨hfz47_0,hfz47_1,hfz47_2,hfz47_3,hfz47_4,hfz47_5,hfz47_6,hfz47_7,hfz47_8,hfz47_9⟩:=fq10 BK163.out;obtain ⟨hcz48_0,hcz48_1,hcz48_2,hcz48_3,hcz48_4,hcz48_5,hcz48_6,hcz48_7,hcz48_8,hcz48_9⟩:=cq10 BK164.out;obtain ⟨hfz48_0,hfz48_1,hfz48_2,hfz48_3,hfz48_4,hfz48_5,hfz48_6,hfz48_7,hfz48_8,hfz48_9⟩:=fq10 BK164.out
                      go_wp2
                      go_ret
                      exact ⟨by first|rfl|(simp [errW_none,errW_some] <;> rfl)|(simp [*,errW_none,errW_some] <;> rfl),by repeat (first|(with_reducible first|exact HB.out|apply sa|apply sn|apply sd|refine sy ?_ (by assumption))|exact HB.out)⟩
                  · rw [if_neg c29] at H
                    have c29b0 : (a0_2 == a1_2) = false:=beq_eq_false_iff_ne.mpr c29;have c29b1 : (a0_2 != a1_2) = true:=bne_iff_ne.mpr c29;obtain rfl:=Option.some.inj H;have hnb49:=NB163_164.out;have hnc49:=NB164_163.out;obtain ⟨hcz50_0,hcz50_1,hcz50_2,hcz50_3,hcz50_4,hcz50_5,hcz50_6,hcz50_7,hcz50_8,hcz50_9⟩:=cq10 BK163.out;obtain ⟨hfz50_0,hfz50_1,hfz50_2,hfz50_3,hfz50_4,hfz50_5,hfz50_6,hfz50_7,hfz50_8,hfz50_9⟩:=fq10 BK163.out;obtain ⟨hcz51_0,hcz51_1,hcz51_2,hcz51_3,hcz51_4,hcz51_5,hcz51_6,hcz51_7,hcz51_8,hcz51_9⟩:=cq10 BK164.out;obtain ⟨hfz51_0,hfz51_1,hfz51_2,hfz51_3,hfz51_4,hfz51_5,hfz51_6,hfz51_7,hfz51_8,hfz51_9⟩:=fq10 BK164.out
                    go_wp2
                    go_ret
                    exact ⟨by first|rfl|(simp [errW_none,errW_some] <;> rfl)|(simp [*,errW_none,errW_some] <;> rfl),by repeat (first|(with_reducible first|exact HB.out|apply sa|apply sn|apply sd|refine sy ?_ (by assumption))|exact HB.out)⟩
                · rw [if_neg c28] at H
                  have c28b0 : (a0_1 == a1_1) = false:=beq_eq_false_iff_ne.mpr c28;have c28b1 : (a0_1 != a1_1) = true:=bne_iff_ne.mpr c28;obtain rfl:=Option.some.inj H;have hnb52:=NB163_164.out;have hnc52:=NB164_163.out;obtain ⟨hcz53_0,hcz53_1,hcz53_2,hcz53_3,hcz53_4,hcz53_5,hcz53_6,hcz53_7,hcz53_8,hcz53_9⟩:=cq10 BK163.out;obtain ⟨hfz53_0,hfz53_1,hfz53_2,hfz53_3,hfz53_4,hfz53_5,hfz53_6,hfz53_7,hfz53_8,hfz53_9⟩:=fq10 BK163.out;obtain ⟨hcz54_0,hcz54_1,hcz54_2,hcz54_3,hcz54_4,hcz54_5,hcz54_6,hcz54_7,hcz54_8,hcz54_9⟩:=cq10 BK164.out;obtain ⟨hfz54_0,hfz54_1,hfz54_2,hfz54_3,hfz54_4,hfz54_5,hfz54_6,hfz54_7,hfz54_8,hfz54_9⟩:=fq10 BK164.out
                  go_wp2
                  go_ret
                  exact ⟨by first|rfl|(simp [errW_none,errW_some] <;> rfl)|(simp [*,errW_none,errW_some] <;> rfl),by repeat (first|(with_reducible first|exact HB.out|apply sa|apply sn|apply sd|refine sy ?_ (by assumption))|exact HB.out)⟩
              · rw [if_neg c27] at H
                have c27b0 : (a0_0 == a1_0) = false:=beq_eq_false_iff_ne.mpr c27;have c27b1 : (a0_0 != a1_0) = true:=bne_iff_ne.mpr c27;obtain rfl:=Option.some.inj H;have hnb55:=NB163_164.out;have hnc55:=NB164_163.out;obtain ⟨hcz56_0,hcz56_1,hcz56_2,hcz56_3,hcz56_4,hcz56_5,hcz56_6,hcz56_7,hcz56_8,hcz56_9⟩:=cq10 BK163.out;obtain ⟨hfz56_0,hfz56_1,hfz56_2,hfz56_3,hfz56_4,hfz56_5,hfz56_6,hfz56_7,hfz56_8,hfz56_9⟩:=fq10 BK163.out;obtain ⟨hcz57_0,hcz57_1,hcz57_2,hcz57_3,hcz57_4,hcz57_5,hcz57_6,hcz57_7,hcz57_8,hcz57_9⟩:=cq10 BK164.out;obtain ⟨hfz57_0,hfz57_1,hfz57_2,hfz57_3,hfz57_4,hfz57_5,hfz57_6,hfz57_7,hfz57_8,hfz57_9⟩:=fq10 BK164.out
                go_wp2
                go_ret
                exact ⟨by first|rfl|(simp [errW_none,errW_some] <;> rfl)|(simp [*,errW_none,errW_some] <;> rfl),by repeat (first|(with_reducible first|exact HB.out|apply sa|apply sn|apply sd|refine sy ?_ (by assumption))|exact HB.out)⟩

end Go.Proofs.Ytlldbmodidhidaa.P
