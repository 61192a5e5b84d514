/- Printed by printx.py (wip/tool) out of the translation: plain functions that tell what the program answers,and the proofs that the program comes to these answers,for all arguments of their kinds. Lean checks it. -/
import Derived.Test.YtlldbmodidhidaaShort
import Derived.Test.YtlldbmodidhidaaPx0
import Derived.Test.YtlldbmodidhidaaPx8
import Derived.Test.YtlldbmodidhidaaPx13
namespace Go.Proofs.Ytlldbmodidhidaa.P
open Go.RowKit Go.Proofs.YtlldbmodidhidaaW.PrintWords Go.Proofs.YtlldbmodidhidaaW.PrintLast Go.Proofs.YtlldbmodidhidaaW.PrintMore
attribute [local go_sem] max2_int min2_int max_two min_two max_three min_three max_four min_four max_five min_five max_six min_six   -- for this text's walks alone
set_option linter.unusedVariables false
set_option linter.unusedSimpArgs false

/-! ### shape_RightRecords: function 32 -/
mutual
def shape_RightRecords.j0 : Nat → Int → Int → List (S49) → Int → Bool → Option (Bool)
  | 0,_,_,_,_,_ => none
  | k + 1,x0,x1,x2,x3,x26 => if x26 = true then (some false) else (shape_RightRecords.l0 k x0 x1 x3 x2 (x2.length : Int) 0)
def shape_RightRecords.l0 : Nat → Int → Int → Int → List (S49) → Int → Int → Option (Bool)
  | 0,_,_,_,_,_,_ => none
  | k + 1,x0,x1,x3,x27,x28,x29 => if x29 < x28 then (if 0 ≤ x29 then (if x29 < (x27.length : Int) then ((shape_sound.f k ((rd_T49 x27 x29).f0) ((rd_T49 x27 x29).f1) ((rd_T49 x27 x29).f2) ((rd_T49 x27 x29).f3) ((rd_T49 x27 x29).f4) ((rd_T49 x27 x29).f5) ((rd_T49 x27 x29).f6) ((rd_T49 x27 x29).f7) ((rd_T49 x27 x29).f8) ((rd_T49 x27 x29).f9) x0 x1).bind fun t206 => (if t206 = true then (if ((rd_T49 x27 x29).f0) = 3 then (if x3 = 0 then (if ((rd_T49 x27 x29).f0) = 2 then (shape_RightRecords.j2 k x0 x1 x3 x27 x28 x29 (x3 == 2) ((rd_T49 x27 x29).f0) ((rd_T49 x27 x29).f1) ((rd_T49 x27 x29).f2) ((rd_T49 x27 x29).f3) ((rd_T49 x27 x29).f4) ((rd_T49 x27 x29).f5) ((rd_T49 x27 x29).f6) ((rd_T49 x27 x29).f7) ((rd_T49 x27 x29).f8) ((rd_T49 x27 x29).f9)) else (shape_RightRecords.j2 k x0 x1 x3 x27 x28 x29 false ((rd_T49 x27 x29).f0) ((rd_T49 x27 x29).f1) ((rd_T49 x27 x29).f2) ((rd_T49 x27 x29).f3) ((rd_T49 x27 x29).f4) ((rd_T49 x27 x29).f5) ((rd_T49 x27 x29).f6) ((rd_T49 x27 x29).f7) ((rd_T49 x27 x29).f8) ((rd_T49 x27 x29).f9))) else (shape_RightRecords.j2 k x0 x1 x3 x27 x28 x29 true ((rd_T49 x27 x29).f0) ((rd_T49 x27 x29).f1) ((rd_T49 x27 x29).f2) ((rd_T49 x27 x29).f3) ((rd_T49 x27 x29).f4) ((rd_T49 x27 x29).f5) ((rd_T49 x27 x29).f6) ((rd_T49 x27 x29).f7) ((rd_T49 x27 x29).f8) ((rd_T49 x27 x29).f9))) else (if ((rd_T49 x27 x29).f0) = 2 then (shape_RightRecords.j2 k x0 x1 x3 x27 x28 x29 (x3 == 2) ((rd_T49 x27 x29).f0) ((rd_T49 x27 x29).f1) ((rd_T49 x27 x29).f2) ((rd_T49 x27 x29).f3) ((rd_T49 x27 x29).f4) ((rd_T49 x27 x29).f5) ((rd_T49 x27 x29).f6) ((rd_T49 x27 x29).f7) ((rd_T49 x27 x29).f8) ((rd_T49 x27 x29).f9)) else (shape_RightRecords.j2 k x0 x1 x3 x27 x28 x29 false ((rd_T49 x27 x29).f0) ((rd_T49 x27 x29).f1) ((rd_T49 x27 x29).f2) ((rd_T49 x27 x29).f3) ((rd_T49 x27 x29).f4) ((rd_T49 x27 x29).f5) ((rd_T49 x27 x29).f6) ((rd_T49 x27 x29).f7) ((rd_T49 x27 x29).f8) ((rd_T49 x27 x29).f9)))) else (shape_RightRecords.j2 k x0 x1 x3 x27 x28 x29 true ((rd_T49 x27 x29).f0) ((rd_T49 x27 x29).f1) ((rd_T49 x27 x29).f2) ((rd_T49 x27 x29).f3) ((rd_T49 x27 x29).f4) ((rd_T49 x27 x29).f5) ((rd_T49 x27 x29).f6) ((rd_T49 x27 x29).f7) ((rd_T49 x27 x29).f8) ((rd_T49 x27 x29).f9)))) else (none)) else (none)) else (some true)
def shape_RightRecords.j2 : Nat → Int → Int → Int → List (S49) → Int → Int → Bool → Int → Int → Int → Int → Int → Int → Int → Int → List (S65) → List (S79) → Option (Bool)
  | 0,_,_,_,_,_,_,_,_,_,_,_,_,_,_,_,_,_ => none
  | k + 1,x0,x1,x3,x27,x28,x29,x55,x206000,x206001,x206002,x206003,x206004,x206005,x206006,x206007,x206008,x206009 => if x55 = true then (some false) else (if x206000 = 3 then (shape_RightRecords.l0 k (x206008.length : Int) (x206009.length : Int) x3 x27 x28 (wrap64 (x29 + 1))) else (shape_RightRecords.l0 k x0 x1 x3 x27 x28 (wrap64 (x29 + 1))))
end
def shape_RightRecords.f (k : Nat) (a0 : Int) (a1 : Int) (l2 : List (S49)) (a3 : Int) : Option (Bool):=(shape_within.f 0 15 (([a0,a1] : List Int))).bind fun t199 => (if t199 = true then ((shape_within.f 0 2 (([a3] : List Int))).bind fun t203 => (if t203 = true then (shape_RightRecords.j0 k a0 a1 l2 a3 (decide ((l2.length : Int) > 512))) else (shape_RightRecords.j0 k a0 a1 l2 a3 true))) else (shape_RightRecords.j0 k a0 a1 l2 a3 true))
theorem shape_RightRecords.mono_l : ∀ k,(∀ y0 y1 y2 y3 y4,LeO (shape_RightRecords.j0 k y0 y1 y2 y3 y4) (shape_RightRecords.j0 (k + 1) y0 y1 y2 y3 y4)) ∧ (∀ y0 y1 y2 y3 y4 y5,LeO (shape_RightRecords.l0 k y0 y1 y2 y3 y4 y5) (shape_RightRecords.l0 (k + 1) y0 y1 y2 y3 y4 y5)) ∧ (∀ y0 y1 y2 y3 y4 y5 y6 y7 y8 y9 y10 y11 y12 y13 y14 y15 y16,LeO (shape_RightRecords.j2 k y0 y1 y2 y3 y4 y5 y6 y7 y8 y9 y10 y11 y12 y13 y14 y15 y16) (shape_RightRecords.j2 (k + 1) y0 y1 y2 y3 y4 y5 y6 y7 y8 y9 y10 y11 y12 y13 y14 y15 y16))
  | 0 => ⟨fun _ _ _ _ _ r h => by simp [shape_RightRecords.j0] at h,fun _ _ _ _ _ _ r h => by simp [shape_RightRecords.l0] at h,fun _ _ _ _ _ _ _ _ _ _ _ _ _ _ _ _ _ r h => by simp [shape_RightRecords.j2] at h⟩
  | k + 1 => by
    obtain ⟨ih0,ih1,ih2⟩:=shape_RightRecords.mono_l k;refine ⟨?_,?_,?_⟩
    · intro y0 y1 y2 y3 y4
      unfold shape_RightRecords.j0
      repeat' first
      | (with_reducible exact ih0 _ _ _ _ _)
      | (with_reducible exact ih1 _ _ _ _ _ _)
      | (with_reducible exact ih2 _ _ _ _ _ _ _ _ _ _ _ _ _ _ _ _ _)
      | (with_reducible exact shape_sound.mono _ _ _ _ _ _ _ _ _ _ _ _ _)
      | (with_reducible exact LeO.refl _)
      | (with_reducible exact LeO.none _)
      | (with_reducible refine LeO.ite ?_ ?_)
      | (with_reducible refine LeO.bind ?_ (fun _ => ?_))
      | exact ih0 _ _ _ _ _
      | exact ih1 _ _ _ _ _ _
      | exact ih2 _ _ _ _ _ _ _ _ _ _ _ _ _ _ _ _ _
      | exact shape_sound.mono _ _ _ _ _ _ _ _ _ _ _ _ _
      | exact LeO.none _
      | refine LeO.ite ?_ ?_
      | refine LeO.bind ?_ (fun _ => ?_)
    · intro y0 y1 y2 y3 y4 y5
      unfold shape_RightRecords.l0
      repeat' first
      | (with_reducible exact ih0 _ _ _ _ _)
      | (with_reducible exact ih1 _ _ _ _ _ _)
      | (with_reducible exact ih2 _ _ _ _ _ _ _ _ _ _ _ _ _ _ _ _ _)
      | (with_reducible exact shape_sound.mono _ _ _ _ _ _ _ _ _ _ _ _ _)
      | (with_reducible exact LeO.refl _)
      | (with_reducible exact LeO.none _)
      | (with_reducible refine LeO.ite ?_ ?_)
      | (with_reducible refine LeO.bind ?_ (fun _ => ?_))
      | exact ih0 _ _ _ _ _
      | exact ih1 _ _ _ _ _ _
      | exact ih2 _ _ _ _ _ _ _ _ _ _ _ _ _ _ _ _ _
      | exact shape_sound.mono _ _ _ _ _ _ _ _ _ _ _ _ _
      | exact LeO.none _
      | refine LeO.ite ?_ ?_
      | refine LeO.bind ?_ (fun _ => ?_)
    · intro y0 y1 y2 y3 y4 y5 y6 y7 y8 y9 y10 y11 y12 y13 y14 y15 y16
      unfold shape_RightRecords.j2
      repeat' first
      | (with_reducible exact ih0 _ _ _ _ _)
      | (with_reducible exact ih1 _ _ _ _ _ _)
      | (with_reducible exact ih2 _ _ _ _ _ _ _ _ _ _ _ _ _ _ _ _ _)
      | (with_reducible exact shape_sound.mono _ _ _ _ _ _ _ _ _ _ _ _ _)
      | (with_reducible exact LeO.refl _)
      | (with_reducible exact LeO.none _)
      | (with_reducible refine LeO.ite ?_ ?_)
      | (with_reducible refine LeO.bind ?_ (fun _ => ?_))
      | exact ih0 _ _ _ _ _
      | exact ih1 _ _ _ _ _ _
      | exact ih2 _ _ _ _ _ _ _ _ _ _ _ _ _ _ _ _ _
      | exact shape_sound.mono _ _ _ _ _ _ _ _ _ _ _ _ _
      | exact LeO.none _
      | refine LeO.ite ?_ ?_
      | refine LeO.bind ?_ (fun _ => ?_)
theorem shape_RightRecords.mono : ∀ a0 a1 a2 a3 k,LeO (shape_RightRecords.f k a0 a1 a2 a3) (shape_RightRecords.f (k + 1) a0 a1 a2 a3):=by
  intro a0 a1 a2 a3 k
  obtain ⟨ih0,ih1,ih2⟩:=shape_RightRecords.mono_l k
  unfold shape_RightRecords.f
  repeat' first
      | (with_reducible exact ih0 _ _ _ _ _)
      | (with_reducible exact ih1 _ _ _ _ _ _)
      | (with_reducible exact ih2 _ _ _ _ _ _ _ _ _ _ _ _ _ _ _ _ _)
      | (with_reducible exact shape_sound.mono _ _ _ _ _ _ _ _ _ _ _ _ _)
      | (with_reducible exact LeO.refl _)
      | (with_reducible exact LeO.none _)
      | (with_reducible refine LeO.ite ?_ ?_)
      | (with_reducible refine LeO.bind ?_ (fun _ => ?_))
      | exact ih0 _ _ _ _ _
      | exact ih1 _ _ _ _ _ _
      | exact ih2 _ _ _ _ _ _ _ _ _ _ _ _ _ _ _ _ _
      | exact shape_sound.mono _ _ _ _ _ _ _ _ _ _ _ _ _
      | exact LeO.none _
      | refine LeO.ite ?_ ?_
      | refine LeO.bind ?_ (fun _ => ?_)
set_option maxHeartbeats 8000000 in
set_option maxRecDepth 100000 in
theorem shape_RightRecords.calls (k : Nat) (a0 : Int) (a1 : Int) (A2 : Option Addr) (c2 : Nat) (l2 : List (S49)) (a3 : Int) (r : Bool) (w : World) (hr2 : Kd.C k49 w A2 l2.length l2) (hc2 : l2.length ≤ c2) (h : shape_RightRecords.f k a0 a1 l2 a3 = some r) :
    Calls Try.prog 32 #[.int .i64 a0,.int .i64 a1,.slice A2 l2.length c2,.int .i64 a3] w fun e w' => e = .returned (.bool r) ∧ Below w.heap.size w w':=by
  have hu49:=Try.underlying49;have HR2:=am hr2;have HC2:=am hc2;clear hr2 hc2;have HB:=am (Below.refl w.heap.size w);have H : ((shape_within.f 0 15 (([a0,a1] : List Int))).bind fun t199 => (if t199 = true then ((shape_within.f 0 2 (([a3] : List Int))).bind fun t203 => (if t203 = true then (shape_RightRecords.j0 k a0 a1 l2 a3 (decide ((l2.length : Int) > 512))) else (shape_RightRecords.j0 k a0 a1 l2 a3 true))) else (shape_RightRecords.j0 k a0 a1 l2 a3 true))) = some r:=h;clear h;have HC5:=am H;clear H
  go_enter Try.func32,Try.ntmps32
  go_upto_region 1 with (fail)
  repeat (go_quiet (fail);go_upto_region 1 with (fail))
  go_cut [26] (fun v26 wc => ∃ (kq : Nat) (x26_4 : Bool),v26 = .bool x26_4 ∧ Aside0 (shape_RightRecords.j0 kq a0 a1 l2 a3 x26_4 = some r) ∧ Aside0 (kq ≤ k) ∧ Aside0 (Below w.heap.size w wc))
  case first =>
    have H:=HC5.out;clear HC5;obtain ⟨y196,hy196⟩ : ∃ y_ : List Int,y_ = (([a0,a1] : List Int)):=⟨_,rfl⟩
    replace H : ((shape_within.f 0 15 y196).bind fun t199 => (if t199 = true then ((shape_within.f 0 2 (([a3] : List Int))).bind fun t203 => (if t203 = true then (shape_RightRecords.j0 k a0 a1 l2 a3 (decide ((l2.length : Int) > 512))) else (shape_RightRecords.j0 k a0 a1 l2 a3 true))) else (shape_RightRecords.j0 k a0 a1 l2 a3 true))) = some r:=by first|(rw [hy196];with_reducible exact H)|(have H2_:=(Option.bind_some _ _).symm.trans H;rw [hy196];with_reducible exact H2_)|(have H2_:=(Option.bind_some _ _).symm.trans H;with_reducible exact H2_)|with_reducible exact H|(rw [hy196];exact H)|exact H
    have Ny196:=am hy196;clear hy196;replace H:=Option.bind_eq_some_iff.mp H;obtain ⟨t199,A60,H⟩:=H;replace H : (if t199 = true then ((shape_within.f 0 2 (([a3] : List Int))).bind fun t203 => (if t203 = true then (shape_RightRecords.j0 k a0 a1 l2 a3 (decide ((l2.length : Int) > 512))) else (shape_RightRecords.j0 k a0 a1 l2 a3 true))) else (shape_RightRecords.j0 k a0 a1 l2 a3 true)) = some r:=H;have A6:=am A60;clear A60
    by_cases c7 : t199 = true
    · subst c7
      have H1 : ((shape_within.f 0 2 (([a3] : List Int))).bind fun t203 => (if t203 = true then (shape_RightRecords.j0 k a0 a1 l2 a3 (decide ((l2.length : Int) > 512))) else (shape_RightRecords.j0 k a0 a1 l2 a3 true))) = some r:=by rw [if_pos rfl] at H;exact H
      clear H;have H:=H1;clear H1;obtain ⟨y200,hy200⟩ : ∃ y_ : List Int,y_ = (([a3] : List Int)):=⟨_,rfl⟩
      replace H : ((shape_within.f 0 2 y200).bind fun t203 => (if t203 = true then (shape_RightRecords.j0 k a0 a1 l2 a3 (decide ((l2.length : Int) > 512))) else (shape_RightRecords.j0 k a0 a1 l2 a3 true))) = some r:=by first|(rw [hy200];with_reducible exact H)|(have H2_:=(Option.bind_some _ _).symm.trans H;rw [hy200];with_reducible exact H2_)|(have H2_:=(Option.bind_some _ _).symm.trans H;with_reducible exact H2_)|with_reducible exact H|(rw [hy200];exact H)|exact H
      have Ny200:=am hy200;clear hy200;replace H:=Option.bind_eq_some_iff.mp H;obtain ⟨t203,A80,H⟩:=H;replace H : (if t203 = true then (shape_RightRecords.j0 k a0 a1 l2 a3 (decide ((l2.length : Int) > 512))) else (shape_RightRecords.j0 k a0 a1 l2 a3 true)) = some r:=H;have A8:=am A80;clear A80
      by_cases c9 : t203 = true
      · subst c9
        have H1 : (shape_RightRecords.j0 k a0 a1 l2 a3 (decide ((l2.length : Int) > 512))) = some r:=by rw [if_pos rfl] at H;exact H
        clear H;have H:=H1;clear H1;have H':=am H;clear H
        go_wp2_with (first|((with_reducible refine gate_dst (N:=13) rfl ?_);(try (refine gate_guard (by rfl) ?_;dsimp only));refine Kd.R_lit (Kd.int .i64) _ 3 ?hg (N:=13) ?hd (xs:=([a0,a1] : List Int)) (inner:=[.int .i64 a0,.int .i64 a1]) (ok:=fun _ => True) (okp:=fun _ => True) ?hr ?hp (fun _ hk => hk) trivial (Below.refl _ _) (Nat.le_refl _) (by simp) ?_;(case hd => rfl);(case hg => rfl);(case hr => first|(go_simp;done)|(go_simp;rfl));(case hp => exact (Reps.one (show Kd.M (Kd.int .i64) _ _ _ a0 [.int .i64 a0] from rfl) (Reps.one (show Kd.M (Kd.int .i64) _ _ _ a1 [.int .i64 a1] from rfl) (Reps.none _ _))));intro v197 w10 ho11 hb hg_ hnew_;clear hg_ hnew_;(first|rw [← Ny196.out] at ho11|(simp only [Int.reduceToNat] at ho11;rw [← Ny196.out] at ho11));have HO198:=am (Kd.R_lower ho11 (sz (by repeat (first|(with_reducible first|exact HB.out|apply sa|apply sn|apply sd)|exact HB.out))));replace HB:=am (ss (by repeat (first|(with_reducible first|exact HB.out|apply sa|apply sn|apply sd)|exact HB.out)) hb);clear hb ho11;obtain ⟨Ao12,co12,eo12⟩:=Kd.R_slice HO198.out;subst eo12)|(go_at_call 29;(with_reducible refine (shape_within.calls 0 15 _ _ y196 true _ ?side1 ?side2 A6.out).mono ?_);(case side1 => repeat (first|exact (Kd.R_reads' HO198.out).2.2|(with_reducible refine Kd.C_alloc ?_ _)|(with_reducible refine Kd.C_drewN ?_ _)|(with_reducible refine Kd.C_drew ?_)));(case side2 => exact (Kd.R_reads' HO198.out).2.1);rintro e w13 ⟨rfl,hb⟩;replace HO198:=am (Kd.R_below (by (with_reducible repeat (first|apply Kd.R_alloc|apply Kd.R_drewN|apply Kd.R_drew));exact HO198.out) hb);replace HB:=am (ss (by repeat (first|(with_reducible first|exact HB.out|apply sa|apply sn|apply sd)|exact HB.out)) hb);(try clear hb);(try clear hb2);(try clear hk);(try clear hi))|((with_reducible refine gate_dst (N:=18) rfl ?_);(try (refine gate_guard (by rfl) ?_;dsimp only));refine Kd.R_lit (Kd.int .i64) _ 3 ?hg (N:=18) ?hd (xs:=([a3] : List Int)) (inner:=[.int .i64 a3]) (ok:=fun _ => True) (okp:=fun _ => True) ?hr ?hp (fun _ hk => hk) trivial (Below.refl _ _) (Nat.le_refl _) (by simp) ?_;(case hd => rfl);(case hg => rfl);(case hr => first|(go_simp;done)|(go_simp;rfl));(case hp => exact (Reps.one (show Kd.M (Kd.int .i64) _ _ _ a3 [.int .i64 a3] from rfl) (Reps.none _ _)));intro v201 w14 ho15 hb hg_ hnew_;clear hg_ hnew_;(first|rw [← Ny200.out] at ho15|(simp only [Int.reduceToNat] at ho15;rw [← Ny200.out] at ho15));have HO202:=am (Kd.R_lower (Kd.R_new' ho15 (Kd.R_lt (by (with_reducible repeat (first|apply Kd.R_alloc|apply Kd.R_drewN|apply Kd.R_drew));exact HO198.out))) (sz (by repeat (first|(with_reducible first|exact HB.out|apply sa|apply sn|apply sd)|exact HB.out))));replace HO198:=am (Kd.R_elder' (by (with_reducible repeat (first|apply Kd.R_alloc|apply Kd.R_drewN|apply Kd.R_drew));exact HO198.out) (Kd.R_base ho15) hb);replace HB:=am (ss (by repeat (first|(with_reducible first|exact HB.out|apply sa|apply sn|apply sd)|exact HB.out)) hb);clear hb ho15;obtain ⟨Ao16,co16,eo16⟩:=Kd.R_slice HO202.out;subst eo16)|(go_at_call 29;(with_reducible refine (shape_within.calls 0 2 _ _ y200 true _ ?side1 ?side2 A8.out).mono ?_);(case side1 => repeat (first|exact (Kd.R_reads' HO202.out).2.2|(with_reducible refine Kd.C_alloc ?_ _)|(with_reducible refine Kd.C_drewN ?_ _)|(with_reducible refine Kd.C_drew ?_)));(case side2 => exact (Kd.R_reads' HO202.out).2.1);rintro e w17 ⟨rfl,hb⟩;replace HO198:=am (Kd.R_below (by (with_reducible repeat (first|apply Kd.R_alloc|apply Kd.R_drewN|apply Kd.R_drew));exact HO198.out) hb);replace HO202:=am (Kd.R_below (by (with_reducible repeat (first|apply Kd.R_alloc|apply Kd.R_drewN|apply Kd.R_drew));exact HO202.out) hb);replace HB:=am (ss (by repeat (first|(with_reducible first|exact HB.out|apply sa|apply sn|apply sd)|exact HB.out)) hb);(try clear hb);(try clear hb2);(try clear hk);(try clear hi)))
        repeat (go_quiet (first|((with_reducible refine gate_dst (N:=13) rfl ?_);(try (refine gate_guard (by rfl) ?_;dsimp only));refine Kd.R_lit (Kd.int .i64) _ 3 ?hg (N:=13) ?hd (xs:=([a0,a1] : List Int)) (inner:=[.int .i64 a0,.int .i64 a1]) (ok:=fun _ => True) (okp:=fun _ => True) ?hr ?hp (fun _ hk => hk) trivial (Below.refl _ _) (Nat.le_refl _) (by simp) ?_;(case hd => rfl);(case hg => rfl);(case hr => first|(go_simp;done)|(go_simp;rfl));(case hp => exact (Reps.one (show Kd.M (Kd.int .i64) _ _ _ a0 [.int .i64 a0] from rfl) (Reps.one (show Kd.M (Kd.int .i64) _ _ _ a1 [.int .i64 a1] from rfl) (Reps.none _ _))));intro v197 w10 ho11 hb hg_ hnew_;clear hg_ hnew_;(first|rw [← Ny196.out] at ho11|(simp only [Int.reduceToNat] at ho11;rw [← Ny196.out] at ho11));have n0_:=am (Kd.R_lower ho11 (sz (by repeat (first|(with_reducible first|exact HB.out|apply sa|apply sn|apply sd)|exact HB.out))));have n1_:=am (ss (by repeat (first|(with_reducible first|exact HB.out|apply sa|apply sn|apply sd)|exact HB.out)) hb);clear HB;have HO198:=n0_;have HB:=n1_;clear n0_ n1_;clear hb ho11;obtain ⟨Ao12,co12,eo12⟩:=Kd.R_slice HO198.out;subst eo12)|(go_at_call 29;(with_reducible refine (shape_within.calls 0 15 _ _ y196 true _ ?side1 ?side2 A6.out).mono ?_);(case side1 => repeat (first|exact (Kd.R_reads' HO198.out).2.2|(with_reducible refine Kd.C_alloc ?_ _)|(with_reducible refine Kd.C_drewN ?_ _)|(with_reducible refine Kd.C_drew ?_)));(case side2 => exact (Kd.R_reads' HO198.out).2.1);rintro e w13 ⟨rfl,hb⟩;have n0_:=am (Kd.R_below (by (with_reducible repeat (first|apply Kd.R_alloc|apply Kd.R_drewN|apply Kd.R_drew));exact HO198.out) hb);have n1_:=am (ss (by repeat (first|(with_reducible first|exact HB.out|apply sa|apply sn|apply sd)|exact HB.out)) hb);clear HO198;clear HB;have HO198:=n0_;have HB:=n1_;clear n0_ n1_;(try clear hb);(try clear hb2);(try clear hk);(try clear hi))|((with_reducible refine gate_dst (N:=18) rfl ?_);(try (refine gate_guard (by rfl) ?_;dsimp only));refine Kd.R_lit (Kd.int .i64) _ 3 ?hg (N:=18) ?hd (xs:=([a3] : List Int)) (inner:=[.int .i64 a3]) (ok:=fun _ => True) (okp:=fun _ => True) ?hr ?hp (fun _ hk => hk) trivial (Below.refl _ _) (Nat.le_refl _) (by simp) ?_;(case hd => rfl);(case hg => rfl);(case hr => first|(go_simp;done)|(go_simp;rfl));(case hp => exact (Reps.one (show Kd.M (Kd.int .i64) _ _ _ a3 [.int .i64 a3] from rfl) (Reps.none _ _)));intro v201 w14 ho15 hb hg_ hnew_;clear hg_ hnew_;(first|rw [← Ny200.out] at ho15|(simp only [Int.reduceToNat] at ho15;rw [← Ny200.out] at ho15));have n0_:=am (Kd.R_elder' (by (with_reducible repeat (first|apply Kd.R_alloc|apply Kd.R_drewN|apply Kd.R_drew));exact HO198.out) (Kd.R_base ho15) hb);have n1_:=am (Kd.R_lower (Kd.R_new' ho15 (Kd.R_lt (by (with_reducible repeat (first|apply Kd.R_alloc|apply Kd.R_drewN|apply Kd.R_drew));exact HO198.out))) (sz (by repeat (first|(with_reducible first|exact HB.out|apply sa|apply sn|apply sd)|exact HB.out))));have n2_:=am (ss (by repeat (first|(with_reducible first|exact HB.out|apply sa|apply sn|apply sd)|exact HB.out)) hb);clear HO198;clear HB;have HO198:=n0_;have HO202:=n1_;have HB:=n2_;clear n0_ n1_ n2_;clear hb ho15;obtain ⟨Ao16,co16,eo16⟩:=Kd.R_slice HO202.out;subst eo16)|(go_at_call 29;(with_reducible refine (shape_within.calls 0 2 _ _ y200 true _ ?side1 ?side2 A8.out).mono ?_);(case side1 => repeat (first|exact (Kd.R_reads' HO202.out).2.2|(with_reducible refine Kd.C_alloc ?_ _)|(with_reducible refine Kd.C_drewN ?_ _)|(with_reducible refine Kd.C_drew ?_)));(case side2 => exact (Kd.R_reads' HO202.out).2.1);rintro e w17 ⟨rfl,hb⟩;have n0_:=am (Kd.R_below (by (with_reducible repeat (first|apply Kd.R_alloc|apply Kd.R_drewN|apply Kd.R_drew));exact HO198.out) hb);have n1_:=am (Kd.R_below (by (with_reducible repeat (first|apply Kd.R_alloc|apply Kd.R_drewN|apply Kd.R_drew));exact HO202.out) hb);have n2_:=am (ss (by repeat (first|(with_reducible first|exact HB.out|apply sa|apply sn|apply sd)|exact HB.out)) hb);clear HO198;clear HO202;clear HB;have HO198:=n0_;have HO202:=n1_;have HB:=n2_;clear n0_ n1_ n2_;(try clear hb);(try clear hb2);(try clear hk);(try clear hi)));try go_wp2_with (first|((with_reducible refine gate_dst (N:=13) rfl ?_);(try (refine gate_guard (by rfl) ?_;dsimp only));refine Kd.R_lit (Kd.int .i64) _ 3 ?hg (N:=13) ?hd (xs:=([a0,a1] : List Int)) (inner:=[.int .i64 a0,.int .i64 a1]) (ok:=fun _ => True) (okp:=fun _ => True) ?hr ?hp (fun _ hk => hk) trivial (Below.refl _ _) (Nat.le_refl _) (by simp) ?_;(case hd => rfl);(case hg => rfl);(case hr => first|(go_simp;done)|(go_simp;rfl));(case hp => exact (Reps.one (show Kd.M (Kd.int .i64) _ _ _ a0 [.int .i64 a0] from rfl) (Reps.one (show Kd.M (Kd.int .i64) _ _ _ a1 [.int .i64 a1] from rfl) (Reps.none _ _))));intro v197 w10 ho11 hb hg_ hnew_;clear hg_ hnew_;(first|rw [← Ny196.out] at ho11|(simp only [Int.reduceToNat] at ho11;rw [← Ny196.out] at ho11));have n0_:=am (Kd.R_lower ho11 (sz (by repeat (first|(with_reducible first|exact HB.out|apply sa|apply sn|apply sd)|exact HB.out))));have n1_:=am (ss (by repeat (first|(with_reducible first|exact HB.out|apply sa|apply sn|apply sd)|exact HB.out)) hb);clear HB;have HO198:=n0_;have HB:=n1_;clear n0_ n1_;clear hb ho11;obtain ⟨Ao12,co12,eo12⟩:=Kd.R_slice HO198.out;subst eo12)|(go_at_call 29;(with_reducible refine (shape_within.calls 0 15 _ _ y196 true _ ?side1 ?side2 A6.out).mono ?_);(case side1 => repeat (first|exact (Kd.R_reads' HO198.out).2.2|(with_reducible refine Kd.C_alloc ?_ _)|(with_reducible refine Kd.C_drewN ?_ _)|(with_reducible refine Kd.C_drew ?_)));(case side2 => exact (Kd.R_reads' HO198.out).2.1);rintro e w13 ⟨rfl,hb⟩;have n0_:=am (Kd.R_below (by (with_reducible repeat (first|apply Kd.R_alloc|apply Kd.R_drewN|apply Kd.R_drew));exact HO198.out) hb);have n1_:=am (ss (by repeat (first|(with_reducible first|exact HB.out|apply sa|apply sn|apply sd)|exact HB.out)) hb);clear HO198;clear HB;have HO198:=n0_;have HB:=n1_;clear n0_ n1_;(try clear hb);(try clear hb2);(try clear hk);(try clear hi))|((with_reducible refine gate_dst (N:=18) rfl ?_);(try (refine gate_guard (by rfl) ?_;dsimp only));refine Kd.R_lit (Kd.int .i64) _ 3 ?hg (N:=18) ?hd (xs:=([a3] : List Int)) (inner:=[.int .i64 a3]) (ok:=fun _ => True) (okp:=fun _ => True) ?hr ?hp (fun _ hk => hk) trivial (Below.refl _ _) (Nat.le_refl _) (by simp) ?_;(case hd => rfl);(case hg => rfl);(case hr => first|(go_simp;done)|(go_simp;rfl));(case hp => exact (Reps.one (show Kd.M (Kd.int .i64) _ _ _ a3 [.int .i64 a3] from rfl) (Reps.none _ _)));intro v201 w14 ho15 hb hg_ hnew_;clear hg_ hnew_;(first|rw [← Ny200.out] at ho15|(simp only [Int.reduceToNat] at ho15;rw [← Ny200.out] at ho15));have n0_:=am (Kd.R_elder' (by (with_reducible repeat (first|apply Kd.R_alloc|apply Kd.R_drewN|apply Kd.R_drew));exact HO198.out) (Kd.R_base ho15) hb);have n1_:=am (Kd.R_lower (Kd.R_new' ho15 (Kd.R_lt (by (with_reducible repeat (first|apply Kd.R_alloc|apply Kd.R_drewN|apply Kd.R_drew));exact HO198.out))) (sz (by repeat (first|(with_reducible first|exact HB.out|apply sa|apply sn|apply sd)|exact HB.out))));have n2_:=am (ss (by repeat (first|(with_reducible first|exact HB.out|apply sa|apply sn|apply sd)|exact HB.out)) hb);clear HO198;clear HB;have HO198:=n0_;have HO202:=n1_;have HB:=n2_;clear n0_ n1_ n2_;clear hb ho15;obtain ⟨Ao16,co16,eo16⟩:=Kd.R_slice HO202.out;subst eo16)|(go_at_call 29;(with_reducible refine (shape_within.calls 0 2 _ _ y200 true _ ?side1 ?side2 A8.out).mono ?_);(case side1 => repeat (first|exact (Kd.R_reads' HO202.out).2.2|(with_reducible refine Kd.C_alloc ?_ _)|(with_reducible refine Kd.C_drewN ?_ _)|(with_reducible refine Kd.C_drew ?_)));(case side2 => exact (Kd.R_reads' HO202.out).2.1);rintro e w17 ⟨rfl,hb⟩;have n0_:=am (Kd.R_below (by (with_reducible repeat (first|apply Kd.R_alloc|apply Kd.R_drewN|apply Kd.R_drew));exact HO198.out) hb);have n1_:=am (Kd.R_below (by (with_reducible repeat (first|apply Kd.R_alloc|apply Kd.R_drewN|apply Kd.R_drew));exact HO202.out) hb);have n2_:=am (ss (by repeat (first|(with_reducible first|exact HB.out|apply sa|apply sn|apply sd)|exact HB.out)) hb);clear HO198;clear HO202;clear HB;have HO198:=n0_;have HO202:=n1_;have HB:=n2_;clear n0_ n1_ n2_;(try clear hb);(try clear hb2);(try clear hk);(try clear hi))))
        go_meet
        case rel => exact ⟨_,(decide ((l2.length : Int) > 512)),(by first|rfl|(simp;done)|(simp [*];done)),H',⟨by first|omega|exact Nat.le_refl _⟩,⟨by repeat (first|(with_reducible first|exact HB.out|apply sa|apply sn|apply sd)|exact HB.out)⟩⟩
      · replace c9:=Bool.eq_false_iff.mpr c9
        subst c9
        have H1 : (shape_RightRecords.j0 k a0 a1 l2 a3 true) = some r:=by rw [if_neg (show ¬ (false = true) by decide)] at H;exact H
        clear H;have H:=H1;clear H1;have H':=am H;clear H
        go_wp2_with (first|((with_reducible refine gate_dst (N:=13) rfl ?_);(try (refine gate_guard (by rfl) ?_;dsimp only));refine Kd.R_lit (Kd.int .i64) _ 3 ?hg (N:=13) ?hd (xs:=([a0,a1] : List Int)) (inner:=[.int .i64 a0,.int .i64 a1]) (ok:=fun _ => True) (okp:=fun _ => True) ?hr ?hp (fun _ hk => hk) trivial (Below.refl _ _) (Nat.le_refl _) (by simp) ?_;(case hd => rfl);(case hg => rfl);(case hr => first|(go_simp;done)|(go_simp;rfl));(case hp => exact (Reps.one (show Kd.M (Kd.int .i64) _ _ _ a0 [.int .i64 a0] from rfl) (Reps.one (show Kd.M (Kd.int .i64) _ _ _ a1 [.int .i64 a1] from rfl) (Reps.none _ _))));intro v197 w18 ho19 hb hg_ hnew_;clear hg_ hnew_;(first|rw [← Ny196.out] at ho19|(simp only [Int.reduceToNat] at ho19;rw [← Ny196.out] at ho19));have HO198:=am (Kd.R_lower ho19 (sz (by repeat (first|(with_reducible first|exact HB.out|apply sa|apply sn|apply sd)|exact HB.out))));replace HB:=am (ss (by repeat (first|(with_reducible first|exact HB.out|apply sa|apply sn|apply sd)|exact HB.out)) hb);clear hb ho19;obtain ⟨Ao20,co20,eo20⟩:=Kd.R_slice HO198.out;subst eo20)|(go_at_call 29;(with_reducible refine (shape_within.calls 0 15 _ _ y196 true _ ?side1 ?side2 A6.out).mono ?_);(case side1 => repeat (first|exact (Kd.R_reads' HO198.out).2.2|(with_reducible refine Kd.C_alloc ?_ _)|(with_reducible refine Kd.C_drewN ?_ _)|(with_reducible refine Kd.C_drew ?_)));(case side2 => exact (Kd.R_reads' HO198.out).2.1);rintro e w21 ⟨rfl,hb⟩;replace HO198:=am (Kd.R_below (by (with_reducible repeat (first|apply Kd.R_alloc|apply Kd.R_drewN|apply Kd.R_drew));exact HO198.out) hb);replace HB:=am (ss (by repeat (first|(with_reducible first|exact HB.out|apply sa|apply sn|apply sd)|exact HB.out)) hb);(try clear hb);(try clear hb2);(try clear hk);(try clear hi))|((with_reducible refine gate_dst (N:=18) rfl ?_);(try (refine gate_guard (by rfl) ?_;dsimp only));refine Kd.R_lit (Kd.int .i64) _ 3 ?hg (N:=18) ?hd (xs:=([a3] : List Int)) (inner:=[.int .i64 a3]) (ok:=fun _ => True) (okp:=fun _ => True) ?hr ?hp (fun _ hk => hk) trivial (Below.refl _ _) (Nat.le_refl _) (by simp) ?_;(case hd => rfl);(case hg => rfl);(case hr => first|(go_simp;done)|(go_simp;rfl));(case hp => exact (Reps.one (show Kd.M (Kd.int .i64) _ _ _ a3 [.int .i64 a3] from rfl) (Reps.none _ _)));intro v201 w22 ho23 hb hg_ hnew_;clear hg_ hnew_;(first|rw [← Ny200.out] at ho23|(simp only [Int.reduceToNat] at ho23;rw [← Ny200.out] at ho23));have HO202:=am (Kd.R_lower (Kd.R_new' ho23 (Kd.R_lt (by (with_reducible repeat (first|apply Kd.R_alloc|apply Kd.R_drewN|apply Kd.R_drew));exact HO198.out))) (sz (by repeat (first|(with_reducible first|exact HB.out|apply sa|apply sn|apply sd)|exact HB.out))));replace HO198:=am (Kd.R_elder' (by (with_reducible repeat (first|apply Kd.R_alloc|apply Kd.R_drewN|apply Kd.R_drew));exact HO198.out) (Kd.R_base ho23) hb);replace HB:=am (ss (by repeat (first|(with_reducible first|exact HB.out|apply sa|apply sn|apply sd)|exact HB.out)) hb);clear hb ho23;obtain ⟨Ao24,co24,eo24⟩:=Kd.R_slice HO202.out;subst eo24)|(go_at_call 29;(with_reducible refine (shape_within.calls 0 2 _ _ y200 false _ ?side1 ?side2 A8.out).mono ?_);(case side1 => repeat (first|exact (Kd.R_reads' HO202.out).2.2|(with_reducible refine Kd.C_alloc ?_ _)|(with_reducible refine Kd.C_drewN ?_ _)|(with_reducible refine Kd.C_drew ?_)));(case side2 => exact (Kd.R_reads' HO202.out).2.1);rintro e w25 ⟨rfl,hb⟩;replace HO198:=am (Kd.R_below (by (with_reducible repeat (first|apply Kd.R_alloc|apply Kd.R_drewN|apply Kd.R_drew));exact HO198.out) hb);replace HO202:=am (Kd.R_below (by (with_reducible repeat (first|apply Kd.R_alloc|apply Kd.R_drewN|apply Kd.R_drew));exact HO202.out) hb);replace HB:=am (ss (by repeat (first|(with_reducible first|exact HB.out|apply sa|apply sn|apply sd)|exact HB.out)) hb);(try clear hb);(try clear hb2);(try clear hk);(try clear hi)))
        repeat (go_quiet (first|((with_reducible refine gate_dst (N:=13) rfl ?_);(try (refine gate_guard (by rfl) ?_;dsimp only));refine Kd.R_lit (Kd.int .i64) _ 3 ?hg (N:=13) ?hd (xs:=([a0,a1] : List Int)) (inner:=[.int .i64 a0,.int .i64 a1]) (ok:=fun _ => True) (okp:=fun _ => True) ?hr ?hp (fun _ hk => hk) trivial (Below.refl _ _) (Nat.le_refl _) (by simp) ?_;(case hd => rfl);(case hg => rfl);(case hr => first|(go_simp;done)|(go_simp;rfl));(case hp => exact (Reps.one (show Kd.M (Kd.int .i64) _ _ _ a0 [.int .i64 a0] from rfl) (Reps.one (show Kd.M (Kd.int .i64) _ _ _ a1 [.int .i64 a1] from rfl) (Reps.none _ _))));intro v197 w18 ho19 hb hg_ hnew_;clear hg_ hnew_;(first|rw [← Ny196.out] at ho19|(simp only [Int.reduceToNat] at ho19;rw [← Ny196.out] at ho19));have n0_:=am (Kd.R_lower ho19 (sz (by repeat (first|(with_reducible first|exact HB.out|apply sa|apply sn|apply sd)|exact HB.out))));have n1_:=am (ss (by repeat (first|(with_reducible first|exact HB.out|apply sa|apply sn|apply sd)|exact HB.out)) hb);clear HB;have HO198:=n0_;have HB:=n1_;clear n0_ n1_;clear hb ho19;obtain ⟨Ao20,co20,eo20⟩:=Kd.R_slice HO198.out;subst eo20)|(go_at_call 29;(with_reducible refine (shape_within.calls 0 15 _ _ y196 true _ ?side1 ?side2 A6.out).mono ?_);(case side1 => repeat (first|exact (Kd.R_reads' HO198.out).2.2|(with_reducible refine Kd.C_alloc ?_ _)|(with_reducible refine Kd.C_drewN ?_ _)|(with_reducible refine Kd.C_drew ?_)));(case side2 => exact (Kd.R_reads' HO198.out).2.1);rintro e w21 ⟨rfl,hb⟩;have n0_:=am (Kd.R_below (by (with_reducible repeat (first|apply Kd.R_alloc|apply Kd.R_drewN|apply Kd.R_drew));exact HO198.out) hb);have n1_:=am (ss (by repeat (first|(with_reducible first|exact HB.out|apply sa|apply sn|apply sd)|exact HB.out)) hb);clear HO198;clear HB;have HO198:=n0_;have HB:=n1_;clear n0_ n1_;(try clear hb);(try clear hb2);(try clear hk);(try clear hi))|((with_reducible refine gate_dst (N:=18) rfl ?_);(try (refine gate_guard (by rfl) ?_;dsimp only));refine Kd.R_lit (Kd.int .i64) _ 3 ?hg (N:=18) ?hd (xs:=([a3] : List Int)) (inner:=[.int .i64 a3]) (ok:=fun _ => True) (okp:=fun _ => True) ?hr ?hp (fun _ hk => hk) trivial (Below.refl _ _) (Nat.le_refl _) (by simp) ?_;(case hd => rfl);(case hg => rfl);(case hr => first|(go_simp;done)|(go_simp;rfl));(case hp => exact (Reps.one (show Kd.M (Kd.int .i64) _ _ _ a3 [.int .i64 a3] from rfl) (Reps.none _ _)));intro v201 w22 ho23 hb hg_ hnew_;clear hg_ hnew_;(first|rw [← Ny200.out] at ho23|(simp only [Int.reduceToNat] at ho23;rw [← Ny200.out] at ho23));have n0_:=am (Kd.R_elder' (by (with_reducible repeat (first|apply Kd.R_alloc|apply Kd.R_drewN|apply Kd.R_drew));exact HO198.out) (Kd.R_base ho23) hb);have n1_:=am (Kd.R_lower (Kd.R_new' ho23 (Kd.R_lt (by (with_reducible repeat (first|apply Kd.R_alloc|apply Kd.R_drewN|apply Kd.R_drew));exact HO198.out))) (sz (by repeat (first|(with_reducible first|exact HB.out|apply sa|apply sn|apply sd)|exact HB.out))));have n2_:=am (ss (by repeat (first|(with_reducible first|exact HB.out|apply sa|apply sn|apply sd)|exact HB.out)) hb);clear HO198;clear HB;have HO198:=n0_;have HO202:=n1_;have HB:=n2_;clear n0_ n1_ n2_;clear hb ho23;obtain ⟨Ao24,co24,eo24⟩:=Kd.R_slice HO202.out;subst eo24)|(go_at_call 29;(with_reducible refine (shape_within.calls 0 2 _ _ y200 false _ ?side1 ?side2 A8.out).mono ?_);(case side1 => repeat (first|exact (Kd.R_reads' HO202.out).2.2|(with_reducible refine Kd.C_alloc ?_ _)|(with_reducible refine Kd.C_drewN ?_ _)|(with_reducible refine Kd.C_drew ?_)));(case side2 => exact (Kd.R_reads' HO202.out).2.1);rintro e w25 ⟨rfl,hb⟩;have n0_:=am (Kd.R_below (by (with_reducible repeat (first|apply Kd.R_alloc|apply Kd.R_drewN|apply Kd.R_drew));exact HO198.out) hb);have n1_:=am (Kd.R_below (by (with_reducible repeat (first|apply Kd.R_alloc|apply Kd.R_drewN|apply Kd.R_drew));exact HO202.out) hb);have n2_:=am (ss (by repeat (first|(with_reducible first|exact HB.out|apply sa|apply sn|apply sd)|exact HB.out)) hb);clear HO198;clear HO202;clear HB;have HO198:=n0_;have HO202:=n1_;have HB:=n2_;clear n0_ n1_ n2_;(try clear hb);(try clear hb2);(try clear hk);(try clear hi)));try go_wp2_with (first|((with_reducible refine gate_dst (N:=13) rfl ?_);(try (refine gate_guard (by rfl) ?_;dsimp only));refine Kd.R_lit (Kd.int .i64) _ 3 ?hg (N:=13) ?hd (xs:=([a0,a1] : List Int)) (inner:=[.int .i64 a0,.int .i64 a1]) (ok:=fun _ => True) (okp:=fun _ => True) ?hr ?hp (fun _ hk => hk) trivial (Below.refl _ _) (Nat.le_refl _) (by simp) ?_;(case hd => rfl);(case hg => rfl);(case hr => first|(go_simp;done)|(go_simp;rfl));(case hp => exact (Reps.one (show Kd.M (Kd.int .i64) _ _ _ a0 [.int .i64 a0] from rfl) (Reps.one (show Kd.M (Kd.int .i64) _ _ _ a1 [.int .i64 a1] from rfl) (Reps.none _ _))));intro v197 w18 ho19 hb hg_ hnew_;clear hg_ hnew_;(first|rw [← Ny196.out] at ho19|(simp only [Int.reduceToNat] at ho19;rw [← Ny196.out] at ho19));have n0_:=am (Kd.R_lower ho19 (sz (by repeat (first|(with_reducible first|exact HB.out|apply sa|apply sn|apply sd)|exact HB.out))));have n1_:=am (ss (by repeat (first|(with_reducible first|exact HB.out|apply sa|apply sn|apply sd)|exact HB.out)) hb);clear HB;have HO198:=n0_;have HB:=n1_;clear n0_ n1_;clear hb ho19;obtain ⟨Ao20,co20,eo20⟩:=Kd.R_slice HO198.out;subst eo20)|(go_at_call 29;(with_reducible refine (shape_within.calls 0 15 _ _ y196 true _ ?side1 ?side2 A6.out).mono ?_);(case side1 => repeat (first|exact (Kd.R_reads' HO198.out).2.2|(with_reducible refine Kd.C_alloc ?_ _)|(with_reducible refine Kd.C_drewN ?_ _)|(with_reducible refine Kd.C_drew ?_)));(case side2 => exact (Kd.R_reads' HO198.out).2.1);rintro e w21 ⟨rfl,hb⟩;have n0_:=am (Kd.R_below (by (with_reducible repeat (first|apply Kd.R_alloc|apply Kd.R_drewN|apply Kd.R_drew));exact HO198.out) hb);have n1_:=am (ss (by repeat (first|(with_reducible first|exact HB.out|apply sa|apply sn|apply sd)|exact HB.out)) hb);clear HO198;clear HB;have HO198:=n0_;have HB:=n1_;clear n0_ n1_;(try clear hb);(try clear hb2);(try clear hk);(try clear hi))|((with_reducible refine gate_dst (N:=18) rfl ?_);(try (refine gate_guard (by rfl) ?_;dsimp only));refine Kd.R_lit (Kd.int .i64) _ 3 ?hg (N:=18) ?hd (xs:=([a3] : List Int)) (inner:=[.int .i64 a3]) (ok:=fun _ => True) (okp:=fun _ => True) ?hr ?hp (fun _ hk => hk) trivial (Below.refl _ _) (Nat.le_refl _) (by simp) ?_;(case hd => rfl);(case hg => rfl);(case hr => first|(go_simp;done)|(go_simp;rfl));(case hp => exact (Reps.one (show Kd.M (Kd.int .i64) _ _ _ a3 [.int .i64 a3] from rfl) (Reps.none _ _)));intro v201 w22 ho23 hb hg_ hnew_;clear hg_ hnew_;(first|rw [← Ny200.out] at ho23|(simp only [Int.reduceToNat] at ho23;rw [← Ny200.out] at ho23));have n0_:=am (Kd.R_elder' (by (with_reducible repeat (first|apply Kd.R_alloc|apply Kd.R_drewN|apply Kd.R_drew));exact HO198.out) (Kd.R_base ho23) hb);have n1_:=am (Kd.R_lower (Kd.R_new' ho23 (Kd.R_lt (by (with_reducible repeat (first|apply Kd.R_alloc|apply Kd.R_drewN|apply Kd.R_drew));exact HO198.out))) (sz (by repeat (first|(with_reducible first|exact HB.out|apply sa|apply sn|apply sd)|exact HB.out))));have n2_:=am (ss (by repeat (first|(with_reducible first|exact HB.out|apply sa|apply sn|apply sd)|exact HB.out)) hb);clear HO198;clear HB;have HO198:=n0_;have HO202:=n1_;have HB:=n2_;clear n0_ n1_ n2_;clear hb ho23;obtain ⟨Ao24,co24,eo24⟩:=Kd.R_slice HO202.out;subst eo24)|(go_at_call 29;(with_reducible refine (shape_within.calls 0 2 _ _ y200 false _ ?side1 ?side2 A8.out).mono ?_);(case side1 => repeat (first|exact (Kd.R_reads' HO202.out).2.2|(with_reducible refine Kd.C_alloc ?_ _)|(with_reducible refine Kd.C_drewN ?_ _)|(with_reducible refine Kd.C_drew ?_)));(case side2 => exact (Kd.R_reads' HO202.out).2.1);rintro e w25 ⟨rfl,hb⟩;have n0_:=am (Kd.R_below (by (with_reducible repeat (first|apply Kd.R_alloc|apply Kd.R_drewN|apply Kd.R_drew));exact HO198.out) hb);have n1_:=am (Kd.R_below (by (with_reducible repeat (first|apply Kd.R_alloc|apply Kd.R_drewN|apply Kd.R_drew));exact HO202.out) hb);have n2_:=am (ss (by repeat (first|(with_reducible first|exact HB.out|apply sa|apply sn|apply sd)|exact HB.out)) hb);clear HO198;clear HO202;clear HB;have HO198:=n0_;have HO202:=n1_;have HB:=n2_;clear n0_ n1_ n2_;(try clear hb);(try clear hb2);(try clear hk);(try clear hi))))
        go_meet
        case rel => exact ⟨_,(true),(by first|rfl|(simp;done)|(simp [*];done)),H',⟨by first|omega|exact Nat.le_refl _⟩,⟨by repeat (first|(with_reducible first|exact HB.out|apply sa|apply sn|apply sd)|exact HB.out)⟩⟩
    · replace c7:=Bool.eq_false_iff.mpr c7
      subst c7
      have H1 : (shape_RightRecords.j0 k a0 a1 l2 a3 true) = some r:=by rw [if_neg (show ¬ (false = true) by decide)] at H;exact H
      clear H;have H:=H1;clear H1;have H':=am H;clear H
      go_wp2_with (first|((with_reducible refine gate_dst (N:=13) rfl ?_);(try (refine gate_guard (by rfl) ?_;dsimp only));refine Kd.R_lit (Kd.int .i64) _ 3 ?hg (N:=13) ?hd (xs:=([a0,a1] : List Int)) (inner:=[.int .i64 a0,.int .i64 a1]) (ok:=fun _ => True) (okp:=fun _ => True) ?hr ?hp (fun _ hk => hk) trivial (Below.refl _ _) (Nat.le_refl _) (by simp) ?_;(case hd => rfl);(case hg => rfl);(case hr => first|(go_simp;done)|(go_simp;rfl));(case hp => exact (Reps.one (show Kd.M (Kd.int .i64) _ _ _ a0 [.int .i64 a0] from rfl) (Reps.one (show Kd.M (Kd.int .i64) _ _ _ a1 [.int .i64 a1] from rfl) (Reps.none _ _))));intro v197 w26 ho27 hb hg_ hnew_;clear hg_ hnew_;(first|rw [← Ny196.out] at ho27|(simp only [Int.reduceToNat] at ho27;rw [← Ny196.out] at ho27));have HO198:=am (Kd.R_lower ho27 (sz (by repeat (first|(with_reducible first|exact HB.out|apply sa|apply sn|apply sd)|exact HB.out))));replace HB:=am (ss (by repeat (first|(with_reducible first|exact HB.out|apply sa|apply sn|apply sd)|exact HB.out)) hb);clear hb ho27;obtain ⟨Ao28,co28,eo28⟩:=Kd.R_slice HO198.out;subst eo28)|(go_at_call 29;(with_reducible refine (shape_within.calls 0 15 _ _ y196 false _ ?side1 ?side2 A6.out).mono ?_);(case side1 => repeat (first|exact (Kd.R_reads' HO198.out).2.2|(with_reducible refine Kd.C_alloc ?_ _)|(with_reducible refine Kd.C_drewN ?_ _)|(with_reducible refine Kd.C_drew ?_)));(case side2 => exact (Kd.R_reads' HO198.out).2.1);rintro e w29 ⟨rfl,hb⟩;replace HO198:=am (Kd.R_below (by (with_reducible repeat (first|apply Kd.R_alloc|apply Kd.R_drewN|apply Kd.R_drew));exact HO198.out) hb);replace HB:=am (ss (by repeat (first|(with_reducible first|exact HB.out|apply sa|apply sn|apply sd)|exact HB.out)) hb);(try clear hb);(try clear hb2);(try clear hk);(try clear hi)))
      repeat (go_quiet (first|((with_reducible refine gate_dst (N:=13) rfl ?_);(try (refine gate_guard (by rfl) ?_;dsimp only));refine Kd.R_lit (Kd.int .i64) _ 3 ?hg (N:=13) ?hd (xs:=([a0,a1] : List Int)) (inner:=[.int .i64 a0,.int .i64 a1]) (ok:=fun _ => True) (okp:=fun _ => True) ?hr ?hp (fun _ hk => hk) trivial (Below.refl _ _) (Nat.le_refl _) (by simp) ?_;(case hd => rfl);(case hg => rfl);(case hr => first|(go_simp;done)|(go_simp;rfl));(case hp => exact (Reps.one (show Kd.M (Kd.int .i64) _ _ _ a0 [.int .i64 a0] from rfl) (Reps.one (show Kd.M (Kd.int .i64) _ _ _ a1 [.int .i64 a1] from rfl) (Reps.none _ _))));intro v197 w26 ho27 hb hg_ hnew_;clear hg_ hnew_;(first|rw [← Ny196.out] at ho27|(simp only [Int.reduceToNat] at ho27;rw [← Ny196.out] at ho27));have n0_:=am (Kd.R_lower ho27 (sz (by repeat (first|(with_reducible first|exact HB.out|apply sa|apply sn|apply sd)|exact HB.out))));have n1_:=am (ss (by repeat (first|(with_reducible first|exact HB.out|apply sa|apply sn|apply sd)|exact HB.out)) hb);clear HB;have HO198:=n0_;have HB:=n1_;clear n0_ n1_;clear hb ho27;obtain ⟨Ao28,co28,eo28⟩:=Kd.R_slice HO198.out;subst eo28)|(go_at_call 29;(with_reducible refine (shape_within.calls 0 15 _ _ y196 false _ ?side1 ?side2 A6.out).mono ?_);(case side1 => repeat (first|exact (Kd.R_reads' HO198.out).2.2|(with_reducible refine Kd.C_alloc ?_ _)|(with_reducible refine Kd.C_drewN ?_ _)|(with_reducible refine Kd.C_drew ?_)));(case side2 => exact (Kd.R_reads' HO198.out).2.1);rintro e w29 ⟨rfl,hb⟩;have n0_:=am (Kd.R_below (by (with_reducible repeat (first|apply Kd.R_alloc|apply Kd.R_drewN|apply Kd.R_drew));exact HO198.out) hb);have n1_:=am (ss (by repeat (first|(with_reducible first|exact HB.out|apply sa|apply sn|apply sd)|exact HB.out)) hb);clear HO198;clear HB;have HO198:=n0_;have HB:=n1_;clear n0_ n1_;(try clear hb);(try clear hb2);(try clear hk);(try clear hi)));try go_wp2_with (first|((with_reducible refine gate_dst (N:=13) rfl ?_);(try (refine gate_guard (by rfl) ?_;dsimp only));refine Kd.R_lit (Kd.int .i64) _ 3 ?hg (N:=13) ?hd (xs:=([a0,a1] : List Int)) (inner:=[.int .i64 a0,.int .i64 a1]) (ok:=fun _ => True) (okp:=fun _ => True) ?hr ?hp (fun _ hk => hk) trivial (Below.refl _ _) (Nat.le_refl _) (by simp) ?_;(case hd => rfl);(case hg => rfl);(case hr => first|(go_simp;done)|(go_simp;rfl));(case hp => exact (Reps.one (show Kd.M (Kd.int .i64) _ _ _ a0 [.int .i64 a0] from rfl) (Reps.one (show Kd.M (Kd.int .i64) _ _ _ a1 [.int .i64 a1] from rfl) (Reps.none _ _))));intro v197 w26 ho27 hb hg_ hnew_;clear hg_ hnew_;(first|rw [← Ny196.out] at ho27|(simp only [Int.reduceToNat] at ho27;rw [← Ny196.out] at ho27));have n0_:=am (Kd.R_lower ho27 (sz (by repeat (first|(with_reducible first|exact HB.out|apply sa|apply sn|apply sd)|exact HB.out))));have n1_:=am (ss (by repeat (first|(with_reducible first|exact HB.out|apply sa|apply sn|apply sd)|exact HB.out)) hb);clear HB;have HO198:=n0_;have HB:=n1_;clear n0_ n1_;clear hb ho27;obtain ⟨Ao28,co28,eo28⟩:=Kd.R_slice HO198.out;subst eo28)|(go_at_call 29;(with_reducible refine (shape_within.calls 0 15 _ _ y196 false _ ?side1 ?side2 A6.out).mono ?_);(case side1 => repeat (first|exact (Kd.R_reads' HO198.out).2.2|(with_reducible refine Kd.C_alloc ?_ _)|(with_reducible refine Kd.C_drewN ?_ _)|(with_reducible refine Kd.C_drew ?_)));(case side2 => exact (Kd.R_reads' HO198.out).2.1);rintro e w29 ⟨rfl,hb⟩;have n0_:=am (Kd.R_below (by (with_reducible repeat (first|apply Kd.R_alloc|apply Kd.R_drewN|apply Kd.R_drew));exact HO198.out) hb);have n1_:=am (ss (by repeat (first|(with_reducible first|exact HB.out|apply sa|apply sn|apply sd)|exact HB.out)) hb);clear HO198;clear HB;have HO198:=n0_;have HB:=n1_;clear n0_ n1_;(try clear hb);(try clear hb2);(try clear hk);(try clear hi))))
      go_meet
      case rel => exact ⟨_,(true),(by first|rfl|(simp;done)|(simp [*];done)),H',⟨by first|omega|exact Nat.le_refl _⟩,⟨by repeat (first|(with_reducible first|exact HB.out|apply sa|apply sn|apply sd)|exact HB.out)⟩⟩
  case rest =>
    clear HC5
    try clear c2
    try clear p2
    try clear c3
    try clear c7
    try clear c9
    obtain ⟨kq,x26_4,rfl,HA,HJ4,HB⟩:=hcut
    cases kq with
    | zero => exact absurd HA.out (by simp [shape_RightRecords.j0])
    | succ kj4 =>
      have H:=HA.out;clear HA;simp only [shape_RightRecords.j0] at H
      by_cases c30 : x26_4 = true
      · subst c30
        have H1 : (some false) = some r:=by rw [if_pos rfl] at H;exact H
        clear H;have H:=H1;clear H1;obtain rfl:=Option.some.inj H
        go_wp2
        repeat (go_quiet (fail);try go_wp2)
        go_ret
        exact ⟨by first|rfl|(simp [errW_none,errW_some] <;> rfl)|(simp [*,errW_none,errW_some] <;> rfl),by repeat (first|(with_reducible first|exact HB.out|apply sa|apply sn|apply sd)|exact HB.out)⟩
      · replace c30:=Bool.eq_false_iff.mpr c30
        subst c30
        have H1 : (shape_RightRecords.l0 kj4 a0 a1 a3 l2 (l2.length : Int) 0) = some r:=by rw [if_neg (show ¬ (false = true) by decide)] at H;exact H
        clear H;have H:=H1;clear H1;have H':=am H;clear H
        go_wp2
        repeat (go_quiet (fail);try go_wp2)
        go_loopg [0,1,29] kj4 (fun kq v0 v1 v29 w' => ∃ (x0_2 : Int) (x1_2 : Int) (x29_2 : Int),v0 = .int .i64 x0_2 ∧ v1 = .int .i64 x1_2 ∧ v29 = .int .i64 x29_2 ∧ Aside0 (shape_RightRecords.l0 kq x0_2 x1_2 a3 l2 (l2.length : Int) x29_2 = some r) ∧ Aside0 (kq ≤ kj4) ∧ Aside0 (Below w.heap.size w w'))
        case atStart => exact ⟨(a0),(a1),(0),(by first|rfl|(simp;done)|(simp [*];done)),(by first|rfl|(simp;done)|(simp [*];done)),(by first|rfl|(simp;done)|(simp [*];done)),H',⟨Nat.le_refl _⟩,⟨by repeat (first|(with_reducible first|exact HB.out|apply sa|apply sn|apply sd)|exact HB.out)⟩⟩
        case round =>
          clear H'
          try clear c2
          try clear p2
          try clear c3
          try clear c7
          try clear c9
          try clear c30
          try clear p2
          obtain ⟨x0_2,x1_2,x29_2,rfl,rfl,rfl,HA,HK2,HB⟩:=hrel
          cases gk with
          | zero => exact absurd HA.out (by simp [shape_RightRecords.l0])
          | succ k2 =>
            have H:=HA.out;clear HA;simp only [shape_RightRecords.l0] at H
            by_cases c31 : x29_2 < (l2.length : Int)
            · rw [if_pos c31] at H
              have c31b0 : decide (x29_2 < (l2.length : Int)) = true:=decide_eq_true c31;clear c31
              by_cases c32 : 0 ≤ x29_2
              · rw [if_pos c32] at H
                have c32b0 : decide (0 ≤ x29_2) = true:=decide_eq_true c32;clear c32
                by_cases c33 : x29_2 < (l2.length : Int)
                · rw [if_pos c33] at H
                  have c33b0 : decide (x29_2 < (l2.length : Int)) = true:=decide_eq_true c33;clear c33;have HC34:=am H;clear H;have p204 : 0 ≤ (x29_2 : Int):=of_decide_eq_true (by first|(with_reducible assumption)|assumption);have q204 : x29_2 < (l2.length : Int):=of_decide_eq_true (by first|(with_reducible assumption)|assumption);obtain ⟨ad204,A204_8,c204_8,A204_9,c204_9,e204,hx204_0,hx204_1,hx204_2,hx204_3,hx204_4,hx204_5,hx204_6,hx204_7,hx204_8,hx204_9,hl204_8,hi204_8,hl204_9,hi204_9⟩:=at_T49 HR2.out x29_2 p204 q204
                  cases e204
                  replace hx204_0:=(HB.out.cell (World.block_lt_of_cell? w _ hx204_0)).trans hx204_0;replace hx204_1:=(HB.out.cell (World.block_lt_of_cell? w _ hx204_1)).trans hx204_1;replace hx204_2:=(HB.out.cell (World.block_lt_of_cell? w _ hx204_2)).trans hx204_2;replace hx204_3:=(HB.out.cell (World.block_lt_of_cell? w _ hx204_3)).trans hx204_3;replace hx204_4:=(HB.out.cell (World.block_lt_of_cell? w _ hx204_4)).trans hx204_4;replace hx204_5:=(HB.out.cell (World.block_lt_of_cell? w _ hx204_5)).trans hx204_5;replace hx204_6:=(HB.out.cell (World.block_lt_of_cell? w _ hx204_6)).trans hx204_6;replace hx204_7:=(HB.out.cell (World.block_lt_of_cell? w _ hx204_7)).trans hx204_7;replace hx204_8:=(HB.out.cell (World.block_lt_of_cell? w _ hx204_8)).trans hx204_8;replace hx204_9:=(HB.out.cell (World.block_lt_of_cell? w _ hx204_9)).trans hx204_9;have HR204_8:=am hi204_8;have HC204_8:=am hl204_8;clear hi204_8 hl204_8;have HR204_9:=am hi204_9;have HC204_9:=am hl204_9;clear hi204_9 hl204_9;replace p204:=eq_true p204;replace q204:=eq_true q204
                  go_upto_region 6 with (first|((with_reducible refine gate_dst (N:=10) rfl ?_);(try (refine gate_guard (by rfl) ?_;dsimp only));refine box_event ?hg (N:=10) ?hd (cs:=#[.int .i64 0,.int .i64 0,.int .i64 0,.int .i64 0,.int .i64 0,.int .i64 0,.int .i64 0,.int .i64 0,.slice none 0 0,.slice none 0 0]) (t:=49) ?hr ?_;(case hd => rfl);(case hg => rfl);(case hr => first|(go_simp;done)|(go_simp;rfl));intro gb205 hg w35 hbox hb;have n0_:=am (ss (by repeat (first|(with_reducible first|exact HB.out|apply sa|apply sn|apply sd)|exact HB.out)) hb);have n1_:=am (hbox);have n2_:=am ((by rw [hg];exact (sz (by repeat (first|(with_reducible first|exact HB.out|apply sa|apply sn|apply sd)|exact HB.out))) : w.heap.size ≤ gb205));have n3_:=am ((by rw [hg];exact (sz (by repeat (first|(with_reducible first|exact HB.out|apply sa|apply sn|apply sd)|exact HB.out))) : w.heap.size ≤ gb205));clear HB;have HB:=n0_;have BK205:=n1_;have GW205:=n2_;have GE205:=n3_;clear n0_ n1_ n2_ n3_;clear hb hbox hg;obtain ⟨hcz36_0,hcz36_1,hcz36_2,hcz36_3,hcz36_4,hcz36_5,hcz36_6,hcz36_7,hcz36_8,hcz36_9⟩:=cq10 BK205.out;obtain ⟨hfz36_0,hfz36_1,hfz36_2,hfz36_3,hfz36_4,hfz36_5,hfz36_6,hfz36_7,hfz36_8,hfz36_9⟩:=fq10 BK205.out))
                  repeat (go_quiet (first|((with_reducible refine gate_dst (N:=10) rfl ?_);(try (refine gate_guard (by rfl) ?_;dsimp only));refine box_event ?hg (N:=10) ?hd (cs:=#[.int .i64 0,.int .i64 0,.int .i64 0,.int .i64 0,.int .i64 0,.int .i64 0,.int .i64 0,.int .i64 0,.slice none 0 0,.slice none 0 0]) (t:=49) ?hr ?_;(case hd => rfl);(case hg => rfl);(case hr => first|(go_simp;done)|(go_simp;rfl));intro gb205 hg w35 hbox hb;have n0_:=am (ss (by repeat (first|(with_reducible first|exact HB.out|apply sa|apply sn|apply sd)|exact HB.out)) hb);have n1_:=am (hbox);have n2_:=am ((by rw [hg];exact (sz (by repeat (first|(with_reducible first|exact HB.out|apply sa|apply sn|apply sd)|exact HB.out))) : w.heap.size ≤ gb205));have n3_:=am ((by rw [hg];exact (sz (by repeat (first|(with_reducible first|exact HB.out|apply sa|apply sn|apply sd)|exact HB.out))) : w.heap.size ≤ gb205));clear HB;have HB:=n0_;have BK205:=n1_;have GW205:=n2_;have GE205:=n3_;clear n0_ n1_ n2_ n3_;clear hb hbox hg;obtain ⟨hcz36_0,hcz36_1,hcz36_2,hcz36_3,hcz36_4,hcz36_5,hcz36_6,hcz36_7,hcz36_8,hcz36_9⟩:=cq10 BK205.out;obtain ⟨hfz36_0,hfz36_1,hfz36_2,hfz36_3,hfz36_4,hfz36_5,hfz36_6,hfz36_7,hfz36_8,hfz36_9⟩:=fq10 BK205.out));go_upto_region 6 with (first|((with_reducible refine gate_dst (N:=10) rfl ?_);(try (refine gate_guard (by rfl) ?_;dsimp only));refine box_event ?hg (N:=10) ?hd (cs:=#[.int .i64 0,.int .i64 0,.int .i64 0,.int .i64 0,.int .i64 0,.int .i64 0,.int .i64 0,.int .i64 0,.slice none 0 0,.slice none 0 0]) (t:=49) ?hr ?_;(case hd => rfl);(case hg => rfl);(case hr => first|(go_simp;done)|(go_simp;rfl));intro gb205 hg w35 hbox hb;have n0_:=am (ss (by repeat (first|(with_reducible first|exact HB.out|apply sa|apply sn|apply sd)|exact HB.out)) hb);have n1_:=am (hbox);have n2_:=am ((by rw [hg];exact (sz (by repeat (first|(with_reducible first|exact HB.out|apply sa|apply sn|apply sd)|exact HB.out))) : w.heap.size ≤ gb205));have n3_:=am ((by rw [hg];exact (sz (by repeat (first|(with_reducible first|exact HB.out|apply sa|apply sn|apply sd)|exact HB.out))) : w.heap.size ≤ gb205));clear HB;have HB:=n0_;have BK205:=n1_;have GW205:=n2_;have GE205:=n3_;clear n0_ n1_ n2_ n3_;clear hb hbox hg;obtain ⟨hcz36_0,hcz36_1,hcz36_2,hcz36_3,hcz36_4,hcz36_5,hcz36_6,hcz36_7,hcz36_8,hcz36_9⟩:=cq10 BK205.out;obtain ⟨hfz36_0,hfz36_1,hfz36_2,hfz36_3,hfz36_4,hfz36_5,hfz36_6,hfz36_7,hfz36_8,hfz36_9⟩:=fq10 BK205.out)))
                  (try simp only [Act.put,q1,q2,q3])
                  go_cut [55] (fun v55 wc => ∃ (kq : Nat) (x55_33 : Bool),v55 = .bool x55_33 ∧ Aside0 (shape_RightRecords.j2 kq x0_2 x1_2 a3 l2 (l2.length : Int) x29_2 x55_33 ((rd_T49 l2 x29_2).f0) ((rd_T49 l2 x29_2).f1) ((rd_T49 l2 x29_2).f2) ((rd_T49 l2 x29_2).f3) ((rd_T49 l2 x29_2).f4) ((rd_T49 l2 x29_2).f5) ((rd_T49 l2 x29_2).f6) ((rd_T49 l2 x29_2).f7) ((rd_T49 l2 x29_2).f8) ((rd_T49 l2 x29_2).f9) = some r) ∧ Aside0 (kq ≤ k2) ∧ Aside0 (wc.heap[gb205]? = some (.cells #[.int .i64 ((rd_T49 l2 x29_2).f0),.int .i64 ((rd_T49 l2 x29_2).f1),.int .i64 ((rd_T49 l2 x29_2).f2),.int .i64 ((rd_T49 l2 x29_2).f3),.int .i64 ((rd_T49 l2 x29_2).f4),.int .i64 ((rd_T49 l2 x29_2).f5),.int .i64 ((rd_T49 l2 x29_2).f6),.int .i64 ((rd_T49 l2 x29_2).f7),(.slice A204_8 ((rd_T49 l2 x29_2).f8).length c204_8),(.slice A204_9 ((rd_T49 l2 x29_2).f9).length c204_9)] 49 (0,0))) ∧ Aside0 (Below w.heap.size w wc))
                  case first =>
                    have H:=HC34.out;clear HC34;replace H:=Option.bind_eq_some_iff.mp H;obtain ⟨t206,A370,H⟩:=H;replace H : (if t206 = true then (if ((rd_T49 l2 x29_2).f0) = 3 then (if a3 = 0 then (if ((rd_T49 l2 x29_2).f0) = 2 then (shape_RightRecords.j2 k2 x0_2 x1_2 a3 l2 (l2.length : Int) x29_2 (a3 == 2) ((rd_T49 l2 x29_2).f0) ((rd_T49 l2 x29_2).f1) ((rd_T49 l2 x29_2).f2) ((rd_T49 l2 x29_2).f3) ((rd_T49 l2 x29_2).f4) ((rd_T49 l2 x29_2).f5) ((rd_T49 l2 x29_2).f6) ((rd_T49 l2 x29_2).f7) ((rd_T49 l2 x29_2).f8) ((rd_T49 l2 x29_2).f9)) else (shape_RightRecords.j2 k2 x0_2 x1_2 a3 l2 (l2.length : Int) x29_2 false ((rd_T49 l2 x29_2).f0) ((rd_T49 l2 x29_2).f1) ((rd_T49 l2 x29_2).f2) ((rd_T49 l2 x29_2).f3) ((rd_T49 l2 x29_2).f4) ((rd_T49 l2 x29_2).f5) ((rd_T49 l2 x29_2).f6) ((rd_T49 l2 x29_2).f7) ((rd_T49 l2 x29_2).f8) ((rd_T49 l2 x29_2).f9))) else (shape_RightRecords.j2 k2 x0_2 x1_2 a3 l2 (l2.length : Int) x29_2 true ((rd_T49 l2 x29_2).f0) ((rd_T49 l2 x29_2).f1) ((rd_T49 l2 x29_2).f2) ((rd_T49 l2 x29_2).f3) ((rd_T49 l2 x29_2).f4) ((rd_T49 l2 x29_2).f5) ((rd_T49 l2 x29_2).f6) ((rd_T49 l2 x29_2).f7) ((rd_T49 l2 x29_2).f8) ((rd_T49 l2 x29_2).f9))) else (if ((rd_T49 l2 x29_2).f0) = 2 then (shape_RightRecords.j2 k2 x0_2 x1_2 a3 l2 (l2.length : Int) x29_2 (a3 == 2) ((rd_T49 l2 x29_2).f0) ((rd_T49 l2 x29_2).f1) ((rd_T49 l2 x29_2).f2) ((rd_T49 l2 x29_2).f3) ((rd_T49 l2 x29_2).f4) ((rd_T49 l2 x29_2).f5) ((rd_T49 l2 x29_2).f6) ((rd_T49 l2 x29_2).f7) ((rd_T49 l2 x29_2).f8) ((rd_T49 l2 x29_2).f9)) else (shape_RightRecords.j2 k2 x0_2 x1_2 a3 l2 (l2.length : Int) x29_2 false ((rd_T49 l2 x29_2).f0) ((rd_T49 l2 x29_2).f1) ((rd_T49 l2 x29_2).f2) ((rd_T49 l2 x29_2).f3) ((rd_T49 l2 x29_2).f4) ((rd_T49 l2 x29_2).f5) ((rd_T49 l2 x29_2).f6) ((rd_T49 l2 x29_2).f7) ((rd_T49 l2 x29_2).f8) ((rd_T49 l2 x29_2).f9)))) else (shape_RightRecords.j2 k2 x0_2 x1_2 a3 l2 (l2.length : Int) x29_2 true ((rd_T49 l2 x29_2).f0) ((rd_T49 l2 x29_2).f1) ((rd_T49 l2 x29_2).f2) ((rd_T49 l2 x29_2).f3) ((rd_T49 l2 x29_2).f4) ((rd_T49 l2 x29_2).f5) ((rd_T49 l2 x29_2).f6) ((rd_T49 l2 x29_2).f7) ((rd_T49 l2 x29_2).f8) ((rd_T49 l2 x29_2).f9))) = some r:=H;have A37:=am A370;clear A370
                    by_cases c38 : t206 = true
                    · subst c38
                      have H1 : (if ((rd_T49 l2 x29_2).f0) = 3 then (if a3 = 0 then (if ((rd_T49 l2 x29_2).f0) = 2 then (shape_RightRecords.j2 k2 x0_2 x1_2 a3 l2 (l2.length : Int) x29_2 (a3 == 2) ((rd_T49 l2 x29_2).f0) ((rd_T49 l2 x29_2).f1) ((rd_T49 l2 x29_2).f2) ((rd_T49 l2 x29_2).f3) ((rd_T49 l2 x29_2).f4) ((rd_T49 l2 x29_2).f5) ((rd_T49 l2 x29_2).f6) ((rd_T49 l2 x29_2).f7) ((rd_T49 l2 x29_2).f8) ((rd_T49 l2 x29_2).f9)) else (shape_RightRecords.j2 k2 x0_2 x1_2 a3 l2 (l2.length : Int) x29_2 false ((rd_T49 l2 x29_2).f0) ((rd_T49 l2 x29_2).f1) ((rd_T49 l2 x29_2).f2) ((rd_T49 l2 x29_2).f3) ((rd_T49 l2 x29_2).f4) ((rd_T49 l2 x29_2).f5) ((rd_T49 l2 x29_2).f6) ((rd_T49 l2 x29_2).f7) ((rd_T49 l2 x29_2).f8) ((rd_T49 l2 x29_2).f9))) else (shape_RightRecords.j2 k2 x0_2 x1_2 a3 l2 (l2.length : Int) x29_2 true ((rd_T49 l2 x29_2).f0) ((rd_T49 l2 x29_2).f1) ((rd_T49 l2 x29_2).f2) ((rd_T49 l2 x29_2).f3) ((rd_T49 l2 x29_2).f4) ((rd_T49 l2 x29_2).f5) ((rd_T49 l2 x29_2).f6) ((rd_T49 l2 x29_2).f7) ((rd_T49 l2 x29_2).f8) ((rd_T49 l2 x29_2).f9))) else (if ((rd_T49 l2 x29_2).f0) = 2 then (shape_RightRecords.j2 k2 x0_2 x1_2 a3 l2 (l2.length : Int) x29_2 (a3 == 2) ((rd_T49 l2 x29_2).f0) ((rd_T49 l2 x29_2).f1) ((rd_T49 l2 x29_2).f2) ((rd_T49 l2 x29_2).f3) ((rd_T49 l2 x29_2).f4) ((rd_T49 l2 x29_2).f5) ((rd_T49 l2 x29_2).f6) ((rd_T49 l2 x29_2).f7) ((rd_T49 l2 x29_2).f8) ((rd_T49 l2 x29_2).f9)) else (shape_RightRecords.j2 k2 x0_2 x1_2 a3 l2 (l2.length : Int) x29_2 false ((rd_T49 l2 x29_2).f0) ((rd_T49 l2 x29_2).f1) ((rd_T49 l2 x29_2).f2) ((rd_T49 l2 x29_2).f3) ((rd_T49 l2 x29_2).f4) ((rd_T49 l2 x29_2).f5) ((rd_T49 l2 x29_2).f6) ((rd_T49 l2 x29_2).f7) ((rd_T49 l2 x29_2).f8) ((rd_T49 l2 x29_2).f9)))) = some r:=by rw [if_pos rfl] at H;exact H
                      clear H;have H:=H1;clear H1
                      by_cases c39 : ((rd_T49 l2 x29_2).f0) = 3
                      · rw [if_pos c39] at H
                        have c39b0 : (((rd_T49 l2 x29_2).f0) == 3) = true:=beq_iff_eq.mpr c39;have c39b1 : (((rd_T49 l2 x29_2).f0) != 3) = false:=bne_eq_false_iff_eq.mpr c39;clear c39
                        (first|rw [c39b0]|(simp only [i64_w,i32_w];rw [c39b0])|skip)
                        by_cases c40 : a3 = 0
                        · rw [if_pos c40] at H
                          have c40b0 : (a3 == 0) = true:=beq_iff_eq.mpr c40;have c40b1 : (a3 != 0) = false:=bne_eq_false_iff_eq.mpr c40;clear c40
                          by_cases c41 : ((rd_T49 l2 x29_2).f0) = 2
                          · rw [if_pos c41] at H
                            have c41b0 : (((rd_T49 l2 x29_2).f0) == 2) = true:=beq_iff_eq.mpr c41;have c41b1 : (((rd_T49 l2 x29_2).f0) != 2) = false:=bne_eq_false_iff_eq.mpr c41;clear c41;have H':=am H;clear H;have hcz42_0 : w35.cell? ⟨gb205,0,none⟩ = some (.int .i64 0):=(bc BK205.out 0).trans rfl;have hcz42_1 : w35.cell? ⟨gb205,1,none⟩ = some (.int .i64 0):=(bc BK205.out 1).trans rfl;have hcz42_2 : w35.cell? ⟨gb205,2,none⟩ = some (.int .i64 0):=(bc BK205.out 2).trans rfl;have hcz42_3 : w35.cell? ⟨gb205,3,none⟩ = some (.int .i64 0):=(bc BK205.out 3).trans rfl;have hcz42_4 : w35.cell? ⟨gb205,4,none⟩ = some (.int .i64 0):=(bc BK205.out 4).trans rfl;have hcz42_5 : w35.cell? ⟨gb205,5,none⟩ = some (.int .i64 0):=(bc BK205.out 5).trans rfl;have hcz42_6 : w35.cell? ⟨gb205,6,none⟩ = some (.int .i64 0):=(bc BK205.out 6).trans rfl;have hcz42_7 : w35.cell? ⟨gb205,7,none⟩ = some (.int .i64 0):=(bc BK205.out 7).trans rfl;have hcz42_8 : w35.cell? ⟨gb205,8,none⟩ = some (.slice none 0 0):=(bc BK205.out 8).trans rfl;have hcz42_9 : w35.cell? ⟨gb205,9,none⟩ = some (.slice none 0 0):=(bc BK205.out 9).trans rfl;have hfz42_0:=bz BK205.out 0;have hfz42_1:=bz BK205.out 1;have hfz42_2:=bz BK205.out 2;have hfz42_3:=bz BK205.out 3;have hfz42_4:=bz BK205.out 4;have hfz42_5:=bz BK205.out 5;have hfz42_6:=bz BK205.out 6;have hfz42_7:=bz BK205.out 7;have hfz42_8:=bz BK205.out 8;have hfz42_9:=bz BK205.out 9
                            go_wp2_with (first|(go_at_call 47;(with_reducible refine (shape_sound.calls k2 ((rd_T49 l2 x29_2).f0) ((rd_T49 l2 x29_2).f1) ((rd_T49 l2 x29_2).f2) ((rd_T49 l2 x29_2).f3) ((rd_T49 l2 x29_2).f4) ((rd_T49 l2 x29_2).f5) ((rd_T49 l2 x29_2).f6) ((rd_T49 l2 x29_2).f7) _ _ ((rd_T49 l2 x29_2).f8) _ _ ((rd_T49 l2 x29_2).f9) x0_2 x1_2 true _ ?side1 ?side2 ?side3 ?side4 A37.out).mono ?_);(case side1 => exact Kd.C_below HR204_8.out (by repeat (first|(with_reducible first|exact HB.out|apply sa|apply sn|apply sd|refine sx ?_ GE205.out)|exact HB.out)));(case side2 => exact HC204_8.out);(case side3 => exact Kd.C_below HR204_9.out (by repeat (first|(with_reducible first|exact HB.out|apply sa|apply sn|apply sd|refine sx ?_ GE205.out)|exact HB.out)));(case side4 => exact HC204_9.out);rintro e w43 ⟨rfl,hb⟩;replace BK205:=am (bw (g:=gb205) (o:=.cells #[.int .i64 ((rd_T49 l2 x29_2).f0),.int .i64 ((rd_T49 l2 x29_2).f1),.int .i64 ((rd_T49 l2 x29_2).f2),.int .i64 ((rd_T49 l2 x29_2).f3),.int .i64 ((rd_T49 l2 x29_2).f4),.int .i64 ((rd_T49 l2 x29_2).f5),.int .i64 ((rd_T49 l2 x29_2).f6),.int .i64 ((rd_T49 l2 x29_2).f7),.slice A204_8 ((rd_T49 l2 x29_2).f8).length c204_8,.slice A204_9 ((rd_T49 l2 x29_2).f9).length c204_9] 49 (0,0)) (bp10 BK205.out) hb);replace HB:=am (ss (by repeat (first|(with_reducible first|exact HB.out|apply sa|apply sn|apply sd|refine sx ?_ GE205.out)|exact HB.out)) hb);(try clear hb);(try clear hb2);(try clear hk);(try clear hi);obtain ⟨hcz44_0,hcz44_1,hcz44_2,hcz44_3,hcz44_4,hcz44_5,hcz44_6,hcz44_7,hcz44_8,hcz44_9⟩:=cq10 BK205.out;obtain ⟨hfz44_0,hfz44_1,hfz44_2,hfz44_3,hfz44_4,hfz44_5,hfz44_6,hfz44_7,hfz44_8,hfz44_9⟩:=fq10 BK205.out))
                            repeat (go_quiet (first|(go_at_call 47;(with_reducible refine (shape_sound.calls k2 ((rd_T49 l2 x29_2).f0) ((rd_T49 l2 x29_2).f1) ((rd_T49 l2 x29_2).f2) ((rd_T49 l2 x29_2).f3) ((rd_T49 l2 x29_2).f4) ((rd_T49 l2 x29_2).f5) ((rd_T49 l2 x29_2).f6) ((rd_T49 l2 x29_2).f7) _ _ ((rd_T49 l2 x29_2).f8) _ _ ((rd_T49 l2 x29_2).f9) x0_2 x1_2 true _ ?side1 ?side2 ?side3 ?side4 A37.out).mono ?_);(case side1 => exact Kd.C_below HR204_8.out (by repeat (first|(with_reducible first|exact HB.out|apply sa|apply sn|apply sd|refine sx ?_ GE205.out)|exact HB.out)));(case side2 => exact HC204_8.out);(case side3 => exact Kd.C_below HR204_9.out (by repeat (first|(with_reducible first|exact HB.out|apply sa|apply sn|apply sd|refine sx ?_ GE205.out)|exact HB.out)));(case side4 => exact HC204_9.out);rintro e w43 ⟨rfl,hb⟩;have n0_:=am (bw (g:=gb205) (o:=.cells #[.int .i64 ((rd_T49 l2 x29_2).f0),.int .i64 ((rd_T49 l2 x29_2).f1),.int .i64 ((rd_T49 l2 x29_2).f2),.int .i64 ((rd_T49 l2 x29_2).f3),.int .i64 ((rd_T49 l2 x29_2).f4),.int .i64 ((rd_T49 l2 x29_2).f5),.int .i64 ((rd_T49 l2 x29_2).f6),.int .i64 ((rd_T49 l2 x29_2).f7),.slice A204_8 ((rd_T49 l2 x29_2).f8).length c204_8,.slice A204_9 ((rd_T49 l2 x29_2).f9).length c204_9] 49 (0,0)) (bp10 BK205.out) hb);have n1_:=am (ss (by repeat (first|(with_reducible first|exact HB.out|apply sa|apply sn|apply sd|refine sx ?_ GE205.out)|exact HB.out)) hb);clear BK205;clear HB;have BK205:=n0_;have HB:=n1_;clear n0_ n1_;(try clear hb);(try clear hb2);(try clear hk);(try clear hi);obtain ⟨hcz44_0,hcz44_1,hcz44_2,hcz44_3,hcz44_4,hcz44_5,hcz44_6,hcz44_7,hcz44_8,hcz44_9⟩:=cq10 BK205.out;obtain ⟨hfz44_0,hfz44_1,hfz44_2,hfz44_3,hfz44_4,hfz44_5,hfz44_6,hfz44_7,hfz44_8,hfz44_9⟩:=fq10 BK205.out));try go_wp2_with (first|(go_at_call 47;(with_reducible refine (shape_sound.calls k2 ((rd_T49 l2 x29_2).f0) ((rd_T49 l2 x29_2).f1) ((rd_T49 l2 x29_2).f2) ((rd_T49 l2 x29_2).f3) ((rd_T49 l2 x29_2).f4) ((rd_T49 l2 x29_2).f5) ((rd_T49 l2 x29_2).f6) ((rd_T49 l2 x29_2).f7) _ _ ((rd_T49 l2 x29_2).f8) _ _ ((rd_T49 l2 x29_2).f9) x0_2 x1_2 true _ ?side1 ?side2 ?side3 ?side4 A37.out).mono ?_);(case side1 => exact Kd.C_below HR204_8.out (by repeat (first|(with_reducible first|exact HB.out|apply sa|apply sn|apply sd|refine sx ?_ GE205.out)|exact HB.out)));(case side2 => exact HC204_8.out);(case side3 => exact Kd.C_below HR204_9.out (by repeat (first|(with_reducible first|exact HB.out|apply sa|apply sn|apply sd|refine sx ?_ GE205.out)|exact HB.out)));(case side4 => exact HC204_9.out);rintro e w43 ⟨rfl,hb⟩;have n0_:=am (bw (g:=gb205) (o:=.cells #[.int .i64 ((rd_T49 l2 x29_2).f0),.int .i64 ((rd_T49 l2 x29_2).f1),.int .i64 ((rd_T49 l2 x29_2).f2),.int .i64 ((rd_T49 l2 x29_2).f3),.int .i64 ((rd_T49 l2 x29_2).f4),.int .i64 ((rd_T49 l2 x29_2).f5),.int .i64 ((rd_T49 l2 x29_2).f6),.int .i64 ((rd_T49 l2 x29_2).f7),.slice A204_8 ((rd_T49 l2 x29_2).f8).length c204_8,.slice A204_9 ((rd_T49 l2 x29_2).f9).length c204_9] 49 (0,0)) (bp10 BK205.out) hb);have n1_:=am (ss (by repeat (first|(with_reducible first|exact HB.out|apply sa|apply sn|apply sd|refine sx ?_ GE205.out)|exact HB.out)) hb);clear BK205;clear HB;have BK205:=n0_;have HB:=n1_;clear n0_ n1_;(try clear hb);(try clear hb2);(try clear hk);(try clear hi);obtain ⟨hcz44_0,hcz44_1,hcz44_2,hcz44_3,hcz44_4,hcz44_5,hcz44_6,hcz44_7,hcz44_8,hcz44_9⟩:=cq10 BK205.out;obtain ⟨hfz44_0,hfz44_1,hfz44_2,hfz44_3,hfz44_4,hfz44_5,hfz44_6,hfz44_7,hfz44_8,hfz44_9⟩:=fq10 BK205.out)))
                            go_meet
                            case rel => exact ⟨_,((a3 == 2)),(by first|rfl|(simp;done)|(simp [*];done)),H',⟨by have:=HJ4.out;have:=HK2.out;first|omega|exact Nat.le_refl _⟩,⟨by exact BK205.out⟩,⟨by repeat (first|(with_reducible first|exact HB.out|apply sa|apply sn|apply sd|refine sx ?_ GE205.out)|exact HB.out)⟩⟩
                          · rw [if_neg c41] at H
                            have c41b0 : (((rd_T49 l2 x29_2).f0) == 2) = false:=beq_eq_false_iff_ne.mpr c41;have c41b1 : (((rd_T49 l2 x29_2).f0) != 2) = true:=bne_iff_ne.mpr c41;have H':=am H;clear H;have hcz45_0 : w35.cell? ⟨gb205,0,none⟩ = some (.int .i64 0):=(bc BK205.out 0).trans rfl;have hcz45_1 : w35.cell? ⟨gb205,1,none⟩ = some (.int .i64 0):=(bc BK205.out 1).trans rfl;have hcz45_2 : w35.cell? ⟨gb205,2,none⟩ = some (.int .i64 0):=(bc BK205.out 2).trans rfl;have hcz45_3 : w35.cell? ⟨gb205,3,none⟩ = some (.int .i64 0):=(bc BK205.out 3).trans rfl;have hcz45_4 : w35.cell? ⟨gb205,4,none⟩ = some (.int .i64 0):=(bc BK205.out 4).trans rfl;have hcz45_5 : w35.cell? ⟨gb205,5,none⟩ = some (.int .i64 0):=(bc BK205.out 5).trans rfl;have hcz45_6 : w35.cell? ⟨gb205,6,none⟩ = some (.int .i64 0):=(bc BK205.out 6).trans rfl;have hcz45_7 : w35.cell? ⟨gb205,7,none⟩ = some (.int .i64 0):=(bc BK205.out 7).trans rfl;have hcz45_8 : w35.cell? ⟨gb205,8,none⟩ = some (.slice none 0 0):=(bc BK205.out 8).trans rfl;have hcz45_9 : w35.cell? ⟨gb205,9,none⟩ = some (.slice none 0 0):=(bc BK205.out 9).trans rfl;have hfz45_0:=bz BK205.out 0;have hfz45_1:=bz BK205.out 1;have hfz45_2:=bz BK205.out 2;have hfz45_3:=bz BK205.out 3;have hfz45_4:=bz BK205.out 4;have hfz45_5:=bz BK205.out 5;have hfz45_6:=bz BK205.out 6;have hfz45_7:=bz BK205.out 7;have hfz45_8:=bz BK205.out 8;have hfz45_9:=bz BK205.out 9
                            go_wp2_with (first|(go_at_call 47;(with_reducible refine (shape_sound.calls k2 ((rd_T49 l2 x29_2).f0) ((rd_T49 l2 x29_2).f1) ((rd_T49 l2 x29_2).f2) ((rd_T49 l2 x29_2).f3) ((rd_T49 l2 x29_2).f4) ((rd_T49 l2 x29_2).f5) ((rd_T49 l2 x29_2).f6) ((rd_T49 l2 x29_2).f7) _ _ ((rd_T49 l2 x29_2).f8) _ _ ((rd_T49 l2 x29_2).f9) x0_2 x1_2 true _ ?side1 ?side2 ?side3 ?side4 A37.out).mono ?_);(case side1 => exact Kd.C_below HR204_8.out (by repeat (first|(with_reducible first|exact HB.out|apply sa|apply sn|apply sd|refine sx ?_ GE205.out)|exact HB.out)));(case side2 => exact HC204_8.out);(case side3 => exact Kd.C_below HR204_9.out (by repeat (first|(with_reducible first|exact HB.out|apply sa|apply sn|apply sd|refine sx ?_ GE205.out)|exact HB.out)));(case side4 => exact HC204_9.out);rintro e w46 ⟨rfl,hb⟩;replace BK205:=am (bw (g:=gb205) (o:=.cells #[.int .i64 ((rd_T49 l2 x29_2).f0),.int .i64 ((rd_T49 l2 x29_2).f1),.int .i64 ((rd_T49 l2 x29_2).f2),.int .i64 ((rd_T49 l2 x29_2).f3),.int .i64 ((rd_T49 l2 x29_2).f4),.int .i64 ((rd_T49 l2 x29_2).f5),.int .i64 ((rd_T49 l2 x29_2).f6),.int .i64 ((rd_T49 l2 x29_2).f7),.slice A204_8 ((rd_T49 l2 x29_2).f8).length c204_8,.slice A204_9 ((rd_T49 l2 x29_2).f9).length c204_9] 49 (0,0)) (bp10 BK205.out) hb);replace HB:=am (ss (by repeat (first|(with_reducible first|exact HB.out|apply sa|apply sn|apply sd|refine sx ?_ GE205.out)|exact HB.out)) hb);(try clear hb);(try clear hb2);(try clear hk);(try clear hi);obtain ⟨hcz47_0,hcz47_1,hcz47_2,hcz47_3,hcz47_4,hcz47_5,hcz47_6,hcz47_7,hcz47_8,hcz47_9⟩:=cq10 BK205.out;obtain ⟨hfz47_0,hfz47_1,hfz47_2,hfz47_3,hfz47_4,hfz47_5,hfz47_6,hfz47_7,hfz47_8,hfz47_9⟩:=fq10 BK205.out))
                            repeat (go_quiet (first|(go_at_call 47;(with_reducible refine (shape_sound.calls k2 ((rd_T49 l2 x29_2).f0) ((rd_T49 l2 x29_2).f1) ((rd_T49 l2 x29_2).f2) ((rd_T49 l2 x29_2).f3) ((rd_T49 l2 x29_2).f4) ((rd_T49 l2 x29_2).f5) ((rd_T49 l2 x29_2).f6) ((rd_T49 l2 x29_2).f7) _ _ ((rd_T49 l2 x29_2).f8) _ _ ((rd_T49 l2 x29_2).f9) x0_2 x1_2 true _ ?side1 ?side2 ?side3 ?side4 A37.out).mono ?_);(case side1 => exact Kd.C_below HR204_8.out (by repeat (first|(with_reducible first|exact HB.out|apply sa|apply sn|apply sd|refine sx ?_ GE205.out)|exact HB.out)));(case side2 => exact HC204_8.out);(case side3 => exact Kd.C_below HR204_9.out (by repeat (first|(with_reducible first|exact HB.out|apply sa|apply sn|apply sd|refine sx ?_ GE205.out)|exact HB.out)));(case side4 => exact HC204_9.out);rintro e w46 ⟨rfl,hb⟩;have n0_:=am (bw (g:=gb205) (o:=.cells #[.int .i64 ((rd_T49 l2 x29_2).f0),.int .i64 ((rd_T49 l2 x29_2).f1),.int .i64 ((rd_T49 l2 x29_2).f2),.int .i64 ((rd_T49 l2 x29_2).f3),.int .i64 ((rd_T49 l2 x29_2).f4),.int .i64 ((rd_T49 l2 x29_2).f5),.int .i64 ((rd_T49 l2 x29_2).f6),.int .i64 ((rd_T49 l2 x29_2).f7),.slice A204_8 ((rd_T49 l2 x29_2).f8).length c204_8,.slice A204_9 ((rd_T49 l2 x29_2).f9).length c204_9] 49 (0,0)) (bp10 BK205.out) hb);have n1_:=am (ss (by repeat (first|(with_reducible first|exact HB.out|apply sa|apply sn|apply sd|refine sx ?_ GE205.out)|exact HB.out)) hb);clear BK205;clear HB;have BK205:=n0_;have HB:=n1_;clear n0_ n1_;(try clear hb);(try clear hb2);(try clear hk);(try clear hi);obtain ⟨hcz47_0,hcz47_1,hcz47_2,hcz47_3,hcz47_4,hcz47_5,hcz47_6,hcz47_7,hcz47_8,hcz47_9⟩:=cq10 BK205.out;obtain ⟨hfz47_0,hfz47_1,hfz47_2,hfz47_3,hfz47_4,hfz47_5,hfz47_6,hfz47_7,hfz47_8,hfz47_9⟩:=fq10 BK205.out));try go_wp2_with (first|(go_at_call 47;(with_reducible refine (shape_sound.calls k2 ((rd_T49 l2 x29_2).f0) ((rd_T49 l2 x29_2).f1) ((rd_T49 l2 x29_2).f2) ((rd_T49 l2 x29_2).f3) ((rd_T49 l2 x29_2).f4) ((rd_T49 l2 x29_2).f5) ((rd_T49 l2 x29_2).f6) ((rd_T49 l2 x29_2).f7) _ _ ((rd_T49 l2 x29_2).f8) _ _ ((rd_T49 l2 x29_2).f9) x0_2 x1_2 true _ ?side1 ?side2 ?side3 ?side4 A37.out).mono ?_);(case side1 => exact Kd.C_below HR204_8.out (by repeat (first|(with_reducible first|exact HB.out|apply sa|apply sn|apply sd|refine sx ?_ GE205.out)|exact HB.out)));(case side2 => exact HC204_8.out);(case side3 => exact Kd.C_below HR204_9.out (by repeat (first|(with_reducible first|exact HB.out|apply sa|apply sn|apply sd|refine sx ?_ GE205.out)|exact HB.out)));(case side4 => exact HC204_9.out);rintro e w46 ⟨rfl,hb⟩;have n0_:=am (bw (g:=gb205) (o:=.cells #[.int .i64 ((rd_T49 l2 x29_2).f0),.int .i64 ((rd_T49 l2 x29_2).f1),.int .i64 ((rd_T49 l2 x29_2).f2),.int .i64 ((rd_T49 l2 x29_2).f3),.int .i64 ((rd_T49 l2 x29_2).f4),.int .i64 ((rd_T49 l2 x29_2).f5),.int .i64 ((rd_T49 l2 x29_2).f6),.int .i64 ((rd_T49 l2 x29_2).f7),.slice A204_8 ((rd_T49 l2 x29_2).f8).length c204_8,.slice A204_9 ((rd_T49 l2 x29_2).f9).length c204_9] 49 (0,0)) (bp10 BK205.out) hb);have n1_:=am (ss (by repeat (first|(with_reducible first|exact HB.out|apply sa|apply sn|apply sd|refine sx ?_ GE205.out)|exact HB.out)) hb);clear BK205;clear HB;have BK205:=n0_;have HB:=n1_;clear n0_ n1_;(try clear hb);(try clear hb2);(try clear hk);(try clear hi);obtain ⟨hcz47_0,hcz47_1,hcz47_2,hcz47_3,hcz47_4,hcz47_5,hcz47_6,hcz47_7,hcz47_8,hcz47_9⟩:=cq10 BK205.out;obtain ⟨hfz47_0,hfz47_1,hfz47_2,hfz47_3,hfz47_4,hfz47_5,hfz47_6,hfz47_7,hfz47_8,hfz47_9⟩:=fq10 BK205.out)))
                            go_meet
                            case rel => exact ⟨_,(false),(by first|rfl|(simp;done)|(simp [*];done)),H',⟨by have:=HJ4.out;have:=HK2.out;first|omega|exact Nat.le_refl _⟩,⟨by exact BK205.out⟩,⟨by repeat (first|(with_reducible first|exact HB.out|apply sa|apply sn|apply sd|refine sx ?_ GE205.out)|exact HB.out)⟩⟩
                        · rw [if_neg c40] at H
                          have c40b0 : (a3 == 0) = false:=beq_eq_false_iff_ne.mpr c40;have c40b1 : (a3 != 0) = true:=bne_iff_ne.mpr c40;have H':=am H;clear H;have hcz48_0 : w35.cell? ⟨gb205,0,none⟩ = some (.int .i64 0):=(bc BK205.out 0).trans rfl;have hcz48_1 : w35.cell? ⟨gb205,1,none⟩ = some (.int .i64 0):=(bc BK205.out 1).trans rfl;have hcz48_2 : w35.cell? ⟨gb205,2,none⟩ = some (.int .i64 0):=(bc BK205.out 2).trans rfl;have hcz48_3 : w35.cell? ⟨gb205,3,none⟩ = some (.int .i64 0):=(bc BK205.out 3).trans rfl;have hcz48_4 : w35.cell? ⟨gb205,4,none⟩ = some (.int .i64 0):=(bc BK205.out 4).trans rfl;have hcz48_5 : w35.cell? ⟨gb205,5,none⟩ = some (.int .i64 0):=(bc BK205.out 5).trans rfl;have hcz48_6 : w35.cell? ⟨gb205,6,none⟩ = some (.int .i64 0):=(bc BK205.out 6).trans rfl;have hcz48_7 : w35.cell? ⟨gb205,7,none⟩ = some (.int .i64 0):=(bc BK205.out 7).trans rfl;have hcz48_8 : w35.cell? ⟨gb205,8,none⟩ = some (.slice none 0 0):=(bc BK205.out 8).trans rfl;have hcz48_9 : w35.cell? ⟨gb205,9,none⟩ = some (.slice none 0 0):=(bc BK205.out 9).trans rfl;have hfz48_0:=bz BK205.out 0;have hfz48_1:=bz BK205.out 1;have hfz48_2:=bz BK205.out 2;have hfz48_3:=bz BK205.out 3;have hfz48_4:=bz BK205.out 4;have hfz48_5:=bz BK205.out 5;have hfz48_6:=bz BK205.out 6;have hfz48_7:=bz BK205.out 7;have hfz48_8:=bz BK205.out 8;have hfz48_9:=bz BK205.out 9
                          go_wp2_with (first|(go_at_call 47;(with_reducible refine (shape_sound.calls k2 ((rd_T49 l2 x29_2).f0) ((rd_T49 l2 x29_2).f1) ((rd_T49 l2 x29_2).f2) ((rd_T49 l2 x29_2).f3) ((rd_T49 l2 x29_2).f4) ((rd_T49 l2 x29_2).f5) ((rd_T49 l2 x29_2).f6) ((rd_T49 l2 x29_2).f7) _ _ ((rd_T49 l2 x29_2).f8) _ _ ((rd_T49 l2 x29_2).f9) x0_2 x1_2 true _ ?side1 ?side2 ?side3 ?side4 A37.out).mono ?_);(case side1 => exact Kd.C_below HR204_8.out (by repeat (first|(with_reducible first|exact HB.out|apply sa|apply sn|apply sd|refine sx ?_ GE205.out)|exact HB.out)));(case side2 => exact HC204_8.out);(case side3 => exact Kd.C_below HR204_9.out (by repeat (first|(with_reducible first|exact HB.out|apply sa|apply sn|apply sd|refine sx ?_ GE205.out)|exact HB.out)));(case side4 => exact HC204_9.out);rintro e w49 ⟨rfl,hb⟩;replace BK205:=am (bw (g:=gb205) (o:=.cells #[.int .i64 ((rd_T49 l2 x29_2).f0),.int .i64 ((rd_T49 l2 x29_2).f1),.int .i64 ((rd_T49 l2 x29_2).f2),.int .i64 ((rd_T49 l2 x29_2).f3),.int .i64 ((rd_T49 l2 x29_2).f4),.int .i64 ((rd_T49 l2 x29_2).f5),.int .i64 ((rd_T49 l2 x29_2).f6),.int .i64 ((rd_T49 l2 x29_2).f7),.slice A204_8 ((rd_T49 l2 x29_2).f8).length c204_8,.slice A204_9 ((rd_T49 l2 x29_2).f9).length c204_9] 49 (0,0)) (bp10 BK205.out) hb);replace HB:=am (ss (by repeat (first|(with_reducible first|exact HB.out|apply sa|apply sn|apply sd|refine sx ?_ GE205.out)|exact HB.out)) hb);(try clear hb);(try clear hb2);(try clear hk);(try clear hi);obtain ⟨hcz50_0,hcz50_1,hcz50_2,hcz50_3,hcz50_4,hcz50_5,hcz50_6,hcz50_7,hcz50_8,hcz50_9⟩:=cq10 BK205.out;obtain ⟨hfz50_0,hfz50_1,hfz50_2,hfz50_3,hfz50_4,hfz50_5,hfz50_6,hfz50_7,hfz50_8,hfz50_9⟩:=fq10 BK205.out))
                          repeat (go_quiet (first|(go_at_call 47;(with_reducible refine (shape_sound.calls k2 ((rd_T49 l2 x29_2).f0) ((rd_T49 l2 x29_2).f1) ((rd_T49 l2 x29_2).f2) ((rd_T49 l2 x29_2).f3) ((rd_T49 l2 x29_2).f4) ((rd_T49 l2 x29_2).f5) ((rd_T49 l2 x29_2).f6) ((rd_T49 l2 x29_2).f7) _ _ ((rd_T49 l2 x29_2).f8) _ _ ((rd_T49 l2 x29_2).f9) x0_2 x1_2 true _ ?side1 ?side2 ?side3 ?side4 A37.out).mono ?_);(case side1 => exact Kd.C_below HR204_8.out (by repeat (first|(with_reducible first|exact HB.out|apply sa|apply sn|apply sd|refine sx ?_ GE205.out)|exact HB.out)));(case side2 => exact HC204_8.out);(case side3 => exact Kd.C_below HR204_9.out (by repeat (first|(with_reducible first|exact HB.out|apply sa|apply sn|apply sd|refine sx ?_ GE205.out)|exact HB.out)));(case side4 => exact HC204_9.out);rintro e w49 ⟨rfl,hb⟩;have n0_:=am (bw (g:=gb205) (o:=.cells #[.int .i64 ((rd_T49 l2 x29_2).f0),.int .i64 ((rd_T49 l2 x29_2).f1),.int .i64 ((rd_T49 l2 x29_2).f2),.int .i64 ((rd_T49 l2 x29_2).f3),.int .i64 ((rd_T49 l2 x29_2).f4),.int .i64 ((rd_T49 l2 x29_2).f5),.int .i64 ((rd_T49 l2 x29_2).f6),.int .i64 ((rd_T49 l2 x29_2).f7),.slice A204_8 ((rd_T49 l2 x29_2).f8).length c204_8,.slice A204_9 ((rd_T49 l2 x29_2).f9).length c204_9] 49 (0,0)) (bp10 BK205.out) hb);have n1_:=am (ss (by repeat (first|(with_reducible first|exact HB.out|apply sa|apply sn|apply sd|refine sx ?_ GE205.out)|exact HB.out)) hb);clear BK205;clear HB;have BK205:=n0_;have HB:=n1_;clear n0_ n1_;(try clear hb);(try clear hb2);(try clear hk);(try clear hi);obtain ⟨hcz50_0,hcz50_1,hcz50_2,hcz50_3,hcz50_4,hcz50_5,hcz50_6,hcz50_7,hcz50_8,hcz50_9⟩:=cq10 BK205.out;obtain ⟨hfz50_0,hfz50_1,hfz50_2,hfz50_3,hfz50_4,hfz50_5,hfz50_6,hfz50_7,hfz50_8,hfz50_9⟩:=fq10 BK205.out));try go_wp2_with (first|(go_at_call 47;(with_reducible refine (shape_sound.calls k2 ((rd_T49 l2 x29_2).f0) ((rd_T49 l2 x29_2).f1) ((rd_T49 l2 x29_2).f2) ((rd_T49 l2 x29_2).f3) ((rd_T49 l2 x29_2).f4) ((rd_T49 l2 x29_2).f5) ((rd_T49 l2 x29_2).f6) ((rd_T49 l2 x29_2).f7) _ _ ((rd_T49 l2 x29_2).f8) _ _ ((rd_T49 l2 x29_2).f9) x0_2 x1_2 true _ ?side1 ?side2 ?side3 ?side4 A37.out).mono ?_);(case side1 => exact Kd.C_below HR204_8.out (by repeat (first|(with_reducible first|exact HB.out|apply sa|apply sn|apply sd|refine sx ?_ GE205.out)|exact HB.out)));(case side2 => exact HC204_8.out);(case side3 => exact Kd.C_below HR204_9.out (by repeat (first|(with_reducible first|exact HB.out|apply sa|apply sn|apply sd|refine sx ?_ GE205.out)|exact HB.out)));(case side4 => exact HC204_9.out);rintro e w49 ⟨rfl,hb⟩;have n0_:=am (bw (g:=gb205) (o:=.cells #[.int .i64 ((rd_T49 l2 x29_2).f0),.int .i64 ((rd_T49 l2 x29_2).f1),.int .i64 ((rd_T49 l2 x29_2).f2),.int .i64 ((rd_T49 l2 x29_2).f3),.int .i64 ((rd_T49 l2 x29_2).f4),.int .i64 ((rd_T49 l2 x29_2).f5),.int .i64 ((rd_T49 l2 x29_2).f6),.int .i64 ((rd_T49 l2 x29_2).f7),.slice A204_8 ((rd_T49 l2 x29_2).f8).length c204_8,.slice A204_9 ((rd_T49 l2 x29_2).f9).length c204_9] 49 (0,0)) (bp10 BK205.out) hb);have n1_:=am (ss (by repeat (first|(with_reducible first|exact HB.out|apply sa|apply sn|apply sd|refine sx ?_ GE205.out)|exact HB.out)) hb);clear BK205;clear HB;have BK205:=n0_;have HB:=n1_;clear n0_ n1_;(try clear hb);(try clear hb2);(try clear hk);(try clear hi);obtain ⟨hcz50_0,hcz50_1,hcz50_2,hcz50_3,hcz50_4,hcz50_5,hcz50_6,hcz50_7,hcz50_8,hcz50_9⟩:=cq10 BK205.out;obtain ⟨hfz50_0,hfz50_1,hfz50_2,hfz50_3,hfz50_4,hfz50_5,hfz50_6,hfz50_7,hfz50_8,hfz50_9⟩:=fq10 BK205.out)))
                          go_meet
                          case rel => exact ⟨_,(true),(by first|rfl|(simp;done)|(simp [*];done)),H',⟨by have:=HJ4.out;have:=HK2.out;first|omega|exact Nat.le_refl _⟩,⟨by exact BK205.out⟩,⟨by repeat (first|(with_reducible first|exact HB.out|apply sa|apply sn|apply sd|refine sx ?_ GE205.out)|exact HB.out)⟩⟩
                      · rw [if_neg c39] at H
                        have c39b0 : (((rd_T49 l2 x29_2).f0) == 3) = false:=beq_eq_false_iff_ne.mpr c39;have c39b1 : (((rd_T49 l2 x29_2).f0) != 3) = true:=bne_iff_ne.mpr c39
                        (first|rw [c39b0]|(simp only [i64_w,i32_w];rw [c39b0])|skip)
                        by_cases c51 : ((rd_T49 l2 x29_2).f0) = 2
                        · rw [if_pos c51] at H
                          have c51b0 : (((rd_T49 l2 x29_2).f0) == 2) = true:=beq_iff_eq.mpr c51;have c51b1 : (((rd_T49 l2 x29_2).f0) != 2) = false:=bne_eq_false_iff_eq.mpr c51;clear c51;have H':=am H;clear H;have hcz52_0 : w35.cell? ⟨gb205,0,none⟩ = some (.int .i64 0):=(bc BK205.out 0).trans rfl;have hcz52_1 : w35.cell? ⟨gb205,1,none⟩ = some (.int .i64 0):=(bc BK205.out 1).trans rfl;have hcz52_2 : w35.cell? ⟨gb205,2,none⟩ = some (.int .i64 0):=(bc BK205.out 2).trans rfl;have hcz52_3 : w35.cell? ⟨gb205,3,none⟩ = some (.int .i64 0):=(bc BK205.out 3).trans rfl;have hcz52_4 : w35.cell? ⟨gb205,4,none⟩ = some (.int .i64 0):=(bc BK205.out 4).trans rfl;have hcz52_5 : w35.cell? ⟨gb205,5,none⟩ = some (.int .i64 0):=(bc BK205.out 5).trans rfl;have hcz52_6 : w35.cell? ⟨gb205,6,none⟩ = some (.int .i64 0):=(bc BK205.out 6).trans rfl;have hcz52_7 : w35.cell? ⟨gb205,7,none⟩ = some (.int .i64 0):=(bc BK205.out 7).trans rfl;have hcz52_8 : w35.cell? ⟨gb205,8,none⟩ = some (.slice none 0 0):=(bc BK205.out 8).trans rfl;have hcz52_9 : w35.cell? ⟨gb205,9,none⟩ = some (.slice none 0 0):=(bc BK205.out 9).trans rfl;have hfz52_0:=bz BK205.out 0;have hfz52_1:=bz BK205.out 1;have hfz52_2:=bz BK205.out 2;have hfz52_3:=bz BK205.out 3;have hfz52_4:=bz BK205.out 4;have hfz52_5:=bz BK205.out 5;have hfz52_6:=bz BK205.out 6;have hfz52_7:=bz BK205.out 7;have hfz52_8:=bz BK205.out 8;have hfz52_9:=bz BK205.out 9
                          go_wp2_with (first|(go_at_call 47;(with_reducible refine (shape_sound.calls k2 ((rd_T49 l2 x29_2).f0) ((rd_T49 l2 x29_2).f1) ((rd_T49 l2 x29_2).f2) ((rd_T49 l2 x29_2).f3) ((rd_T49 l2 x29_2).f4) ((rd_T49 l2 x29_2).f5) ((rd_T49 l2 x29_2).f6) ((rd_T49 l2 x29_2).f7) _ _ ((rd_T49 l2 x29_2).f8) _ _ ((rd_T49 l2 x29_2).f9) x0_2 x1_2 true _ ?side1 ?side2 ?side3 ?side4 A37.out).mono ?_);(case side1 => exact Kd.C_below HR204_8.out (by repeat (first|(with_reducible first|exact HB.out|apply sa|apply sn|apply sd|refine sx ?_ GE205.out)|exact HB.out)));(case side2 => exact HC204_8.out);(case side3 => exact Kd.C_below HR204_9.out (by repeat (first|(with_reducible first|exact HB.out|apply sa|apply sn|apply sd|refine sx ?_ GE205.out)|exact HB.out)));(case side4 => exact HC204_9.out);rintro e w53 ⟨rfl,hb⟩;replace BK205:=am (bw (g:=gb205) (o:=.cells #[.int .i64 ((rd_T49 l2 x29_2).f0),.int .i64 ((rd_T49 l2 x29_2).f1),.int .i64 ((rd_T49 l2 x29_2).f2),.int .i64 ((rd_T49 l2 x29_2).f3),.int .i64 ((rd_T49 l2 x29_2).f4),.int .i64 ((rd_T49 l2 x29_2).f5),.int .i64 ((rd_T49 l2 x29_2).f6),.int .i64 ((rd_T49 l2 x29_2).f7),.slice A204_8 ((rd_T49 l2 x29_2).f8).length c204_8,.slice A204_9 ((rd_T49 l2 x29_2).f9).length c204_9] 49 (0,0)) (bp10 BK205.out) hb);replace HB:=am (ss (by repeat (first|(with_reducible first|exact HB.out|apply sa|apply sn|apply sd|refine sx ?_ GE205.out)|exact HB.out)) hb);(try clear hb);(try clear hb2);(try clear hk);(try clear hi);obtain ⟨hcz54_0,hcz54_1,hcz54_2,hcz54_3,hcz54_4,hcz54_5,hcz54_6,hcz54_7,hcz54_8,hcz54_9⟩:=cq10 BK205.out;obtain ⟨hfz54_0,hfz54_1,hfz54_2,hfz54_3,hfz54_4,hfz54_5,hfz54_6,hfz54_7,hfz54_8,hfz54_9⟩:=fq10 BK205.out))
                          repeat (go_quiet (first|(go_at_call 47;(with_reducible refine (shape_sound.calls k2 ((rd_T49 l2 x29_2).f0) ((rd_T49 l2 x29_2).f1) ((rd_T49 l2 x29_2).f2) ((rd_T49 l2 x29_2).f3) ((rd_T49 l2 x29_2).f4) ((rd_T49 l2 x29_2).f5) ((rd_T49 l2 x29_2).f6) ((rd_T49 l2 x29_2).f7) _ _ ((rd_T49 l2 x29_2).f8) _ _ ((rd_T49 l2 x29_2).f9) x0_2 x1_2 true _ ?side1 ?side2 ?side3 ?side4 A37.out).mono ?_);(case side1 => exact Kd.C_below HR204_8.out (by repeat (first|(with_reducible first|exact HB.out|apply sa|apply sn|apply sd|refine sx ?_ GE205.out)|exact HB.out)));(case side2 => exact HC204_8.out);(case side3 => exact Kd.C_below HR204_9.out (by repeat (first|(with_reducible first|exact HB.out|apply sa|apply sn|apply sd|refine sx ?_ GE205.out)|exact HB.out)));(case side4 => exact HC204_9.out);rintro e w53 ⟨rfl,hb⟩;have n0_:=am (bw (g:=gb205) (o:=.cells #[.int .i64 ((rd_T49 l2 x29_2).f0),.int .i64 ((rd_T49 l2 x29_2).f1),.int .i64 ((rd_T49 l2 x29_2).f2),.int .i64 ((rd_T49 l2 x29_2).f3),.int .i64 ((rd_T49 l2 x29_2).f4),.int .i64 ((rd_T49 l2 x29_2).f5),.int .i64 ((rd_T49 l2 x29_2).f6),.int .i64 ((rd_T49 l2 x29_2).f7),.slice A204_8 ((rd_T49 l2 x29_2).f8).length c204_8,.slice A204_9 ((rd_T49 l2 x29_2).f9).length c204_9] 49 (0,0)) (bp10 BK205.out) hb);have n1_:=am (ss (by repeat (first|(with_reducible first|exact HB.out|apply sa|apply sn|apply sd|refine sx ?_ GE205.out)|exact HB.out)) hb);clear BK205;clear HB;have BK205:=n0_;have HB:=n1_;clear n0_ n1_;(try clear hb);(try clear hb2);(try clear hk);(try clear hi);obtain ⟨hcz54_0,hcz54_1,hcz54_2,hcz54_3,hcz54_4,hcz54_5,hcz54_6,hcz54_7,hcz54_8,hcz54_9⟩:=cq10 BK205.out;obtain ⟨hfz54_0,hfz54_1,hfz54_2,hfz54_3,hfz54_4,hfz54_5,hfz54_6,hfz54_7,hfz54_8,hfz54_9⟩:=fq10 BK205.out));try go_wp2_with (first|(go_at_call 47;(with_reducible refine (shape_sound.calls k2 ((rd_T49 l2 x29_2).f0) ((rd_T49 l2 x29_2).f1) ((rd_T49 l2 x29_2).f2) ((rd_T49 l2 x29_2).f3) ((rd_T49 l2 x29_2).f4) ((rd_T49 l2 x29_2).f5) ((rd_T49 l2 x29_2).f6) ((rd_T49 l2 x29_2).f7) _ _ ((rd_T49 l2 x29_2).f8) _ _ ((rd_T49 l2 x29_2).f9) x0_2 x1_2 true _ ?side1 ?side2 ?side3 ?side4 A37.out).mono ?_);(case side1 => exact Kd.C_below HR204_8.out (by repeat (first|(with_reducible first|exact HB.out|apply sa|apply sn|apply sd|refine sx ?_ GE205.out)|exact HB.out)));(case side2 => exact HC204_8.out);(case side3 => exact Kd.C_below HR204_9.out (by repeat (first|(with_reducible first|exact HB.out|apply sa|apply sn|apply sd|refine sx ?_ GE205.out)|exact HB.out)));(case side4 => exact HC204_9.out);rintro e w53 ⟨rfl,hb⟩;have n0_:=am (bw (g:=gb205) (o:=.cells #[.int .i64 ((rd_T49 l2 x29_2).f0),.int .i64 ((rd_T49 l2 x29_2).f1),.int .i64 ((rd_T49 l2 x29_2).f2),.int .i64 ((rd_T49 l2 x29_2).f3),.int .i64 ((rd_T49 l2 x29_2).f4),.int .i64 ((rd_T49 l2 x29_2).f5),.int .i64 ((rd_T49 l2 x29_2).f6),.int .i64 ((rd_T49 l2 x29_2).f7),.slice A204_8 ((rd_T49 l2 x29_2).f8).length c204_8,.slice A204_9 ((rd_T49 l2 x29_2).f9).length c204_9] 49 (0,0)) (bp10 BK205.out) hb);have n1_:=am (ss (by repeat (first|(with_reducible first|exact HB.out|apply sa|apply sn|apply sd|refine sx ?_ GE205.out)|exact HB.out)) hb);clear BK205;clear HB;have BK205:=n0_;have HB:=n1_;clear n0_ n1_;(try clear hb);(try clear hb2);(try clear hk);(try clear hi);obtain ⟨hcz54_0,hcz54_1,hcz54_2,hcz54_3,hcz54_4,hcz54_5,hcz54_6,hcz54_7,hcz54_8,hcz54_9⟩:=cq10 BK205.out;obtain ⟨hfz54_0,hfz54_1,hfz54_2,hfz54_3,hfz54_4,hfz54_5,hfz54_6,hfz54_7,hfz54_8,hfz54_9⟩:=fq10 BK205.out)))
                          go_meet
                          case rel => exact ⟨_,((a3 == 2)),(by first|rfl|(simp;done)|(simp [*];done)),H',⟨by have:=HJ4.out;have:=HK2.out;first|omega|exact Nat.le_refl _⟩,⟨by exact BK205.out⟩,⟨by repeat (first|(with_reducible first|exact HB.out|apply sa|apply sn|apply sd|refine sx ?_ GE205.out)|exact HB.out)⟩⟩
                        · rw [if_neg c51] at H
                          have c51b0 : (((rd_T49 l2 x29_2).f0) == 2) = false:=beq_eq_false_iff_ne.mpr c51;have c51b1 : (((rd_T49 l2 x29_2).f0) != 2) = true:=bne_iff_ne.mpr c51;have H':=am H;clear H;have hcz55_0 : w35.cell? ⟨gb205,0,none⟩ = some (.int .i64 0):=(bc BK205.out 0).trans rfl;have hcz55_1 : w35.cell? ⟨gb205,1,none⟩ = some (.int .i64 0):=(bc BK205.out 1).trans rfl;have hcz55_2 : w35.cell? ⟨gb205,2,none⟩ = some (.int .i64 0):=(bc BK205.out 2).trans rfl;have hcz55_3 : w35.cell? ⟨gb205,3,none⟩ = some (.int .i64 0):=(bc BK205.out 3).trans rfl;have hcz55_4 : w35.cell? ⟨gb205,4,none⟩ = some (.int .i64 0):=(bc BK205.out 4).trans rfl;have hcz55_5 : w35.cell? ⟨gb205,5,none⟩ = some (.int .i64 0):=(bc BK205.out 5).trans rfl;have hcz55_6 : w35.cell? ⟨gb205,6,none⟩ = some (.int .i64 0):=(bc BK205.out 6).trans rfl;have hcz55_7 : w35.cell? ⟨gb205,7,none⟩ = some (.int .i64 0):=(bc BK205.out 7).trans rfl;have hcz55_8 : w35.cell? ⟨gb205,8,none⟩ = some (.slice none 0 0):=(bc BK205.out 8).trans rfl;have hcz55_9 : w35.cell? ⟨gb205,9,none⟩ = some (.slice none 0 0):=(bc BK205.out 9).trans rfl;have hfz55_0:=bz BK205.out 0;have hfz55_1:=bz BK205.out 1;have hfz55_2:=bz BK205.out 2;have hfz55_3:=bz BK205.out 3;have hfz55_4:=bz BK205.out 4;have hfz55_5:=bz BK205.out 5;have hfz55_6:=bz BK205.out 6;have hfz55_7:=bz BK205.out 7;have hfz55_8:=bz BK205.out 8;have hfz55_9:=bz BK205.out 9
                          go_wp2_with (first|(go_at_call 47;(with_reducible refine (shape_sound.calls k2 ((rd_T49 l2 x29_2).f0) ((rd_T49 l2 x29_2).f1) ((rd_T49 l2 x29_2).f2) ((rd_T49 l2 x29_2).f3) ((rd_T49 l2 x29_2).f4) ((rd_T49 l2 x29_2).f5) ((rd_T49 l2 x29_2).f6) ((rd_T49 l2 x29_2).f7) _ _ ((rd_T49 l2 x29_2).f8) _ _ ((rd_T49 l2 x29_2).f9) x0_2 x1_2 true _ ?side1 ?side2 ?side3 ?side4 A37.out).mono ?_);(case side1 => exact Kd.C_below HR204_8.out (by repeat (first|(with_reducible first|exact HB.out|apply sa|apply sn|apply sd|refine sx ?_ GE205.out)|exact HB.out)));(case side2 => exact HC204_8.out);(case side3 => exact Kd.C_below HR204_9.out (by repeat (first|(with_reducible first|exact HB.out|apply sa|apply sn|apply sd|refine sx ?_ GE205.out)|exact HB.out)));(case side4 => exact HC204_9.out);rintro e w56 ⟨rfl,hb⟩;replace BK205:=am (bw (g:=gb205) (o:=.cells #[.int .i64 ((rd_T49 l2 x29_2).f0),.int .i64 ((rd_T49 l2 x29_2).f1),.int .i64 ((rd_T49 l2 x29_2).f2),.int .i64 ((rd_T49 l2 x29_2).f3),.int .i64 ((rd_T49 l2 x29_2).f4),.int .i64 ((rd_T49 l2 x29_2).f5),.int .i64 ((rd_T49 l2 x29_2).f6),.int .i64 ((rd_T49 l2 x29_2).f7),.slice A204_8 ((rd_T49 l2 x29_2).f8).length c204_8,.slice A204_9 ((rd_T49 l2 x29_2).f9).length c204_9] 49 (0,0)) (bp10 BK205.out) hb);replace HB:=am (ss (by repeat (first|(with_reducible first|exact HB.out|apply sa|apply sn|apply sd|refine sx ?_ GE205.out)|exact HB.out)) hb);(try clear hb);(try clear hb2);(try clear hk);(try clear hi);obtain ⟨hcz57_0,hcz57_1,hcz57_2,hcz57_3,hcz57_4,hcz57_5,hcz57_6,hcz57_7,hcz57_8,hcz57_9⟩:=cq10 BK205.out;obtain ⟨hfz57_0,hfz57_1,hfz57_2,hfz57_3,hfz57_4,hfz57_5,hfz57_6,hfz57_7,hfz57_8,hfz57_9⟩:=fq10 BK205.out))
                          repeat (go_quiet (first|(go_at_call 47;(with_reducible refine (shape_sound.calls k2 ((rd_T49 l2 x29_2).f0) ((rd_T49 l2 x29_2).f1) ((rd_T49 l2 x29_2).f2) ((rd_T49 l2 x29_2).f3) ((rd_T49 l2 x29_2).f4) ((rd_T49 l2 x29_2).f5) ((rd_T49 l2 x29_2).f6) ((rd_T49 l2 x29_2).f7) _ _ ((rd_T49 l2 x29_2).f8) _ _ ((rd_T49 l2 x29_2).f9) x0_2 x1_2 true _ ?side1 ?side2 ?side3 ?side4 A37.out).mono ?_);(case side1 => exact Kd.C_below HR204_8.out (by repeat (first|(with_reducible first|exact HB.out|apply sa|apply sn|apply sd|refine sx ?_ GE205.out)|exact HB.out)));(case side2 => exact HC204_8.out);(case side3 => exact Kd.C_below HR204_9.out (by repeat (first|(with_reducible first|exact HB.out|apply sa|apply sn|apply sd|refine sx ?_ GE205.out)|exact HB.out)));(case side4 => exact HC204_9.out);rintro e w56 ⟨rfl,hb⟩;have n0_:=am (bw (g:=gb205) (o:=.cells #[.int .i64 ((rd_T49 l2 x29_2).f0),.int .i64 ((rd_T49 l2 x29_2).f1),.int .i64 ((rd_T49 l2 x29_2).f2),.int .i64 ((rd_T49 l2 x29_2).f3),.int .i64 ((rd_T49 l2 x29_2).f4),.int .i64 ((rd_T49 l2 x29_2).f5),.int .i64 ((rd_T49 l2 x29_2).f6),.int .i64 ((rd_T49 l2 x29_2).f7),.slice A204_8 ((rd_T49 l2 x29_2).f8).length c204_8,.slice A204_9 ((rd_T49 l2 x29_2).f9).length c204_9] 49 (0,0)) (bp10 BK205.out) hb);have n1_:=am (ss (by repeat (first|(with_reducible first|exact HB.out|apply sa|apply sn|apply sd|refine sx ?_ GE205.out)|exact HB.out)) hb);clear BK205;clear HB;have BK205:=n0_;have HB:=n1_;clear n0_ n1_;(try clear hb);(try clear hb2);(try clear hk);(try clear hi);obtain ⟨hcz57_0,hcz57_1,hcz57_2,hcz57_3,hcz57_4,hcz57_5,hcz57_6,hcz57_7,hcz57_8,hcz57_9⟩:=cq10 BK205.out;obtain ⟨hfz57_0,hfz57_1,hfz57_2,hfz57_3,hfz57_4,hfz57_5,hfz57_6,hfz57_7,hfz57_8,hfz57_9⟩:=fq10 BK205.out));try go_wp2_with (first|(go_at_call 47;(with_reducible refine (shape_sound.calls k2 ((rd_T49 l2 x29_2).f0) ((rd_T49 l2 x29_2).f1) ((rd_T49 l2 x29_2).f2) ((rd_T49 l2 x29_2).f3) ((rd_T49 l2 x29_2).f4) ((rd_T49 l2 x29_2).f5) ((rd_T49 l2 x29_2).f6) ((rd_T49 l2 x29_2).f7) _ _ ((rd_T49 l2 x29_2).f8) _ _ ((rd_T49 l2 x29_2).f9) x0_2 x1_2 true _ ?side1 ?side2 ?side3 ?side4 A37.out).mono ?_);(case side1 => exact Kd.C_below HR204_8.out (by repeat (first|(with_reducible first|exact HB.out|apply sa|apply sn|apply sd|refine sx ?_ GE205.out)|exact HB.out)));(case side2 => exact HC204_8.out);(case side3 => exact Kd.C_below HR204_9.out (by repeat (first|(with_reducible first|exact HB.out|apply sa|apply sn|apply sd|refine sx ?_ GE205.out)|exact HB.out)));(case side4 => exact HC204_9.out);rintro e w56 ⟨rfl,hb⟩;have n0_:=am (bw (g:=gb205) (o:=.cells #[.int .i64 ((rd_T49 l2 x29_2).f0),.int .i64 ((rd_T49 l2 x29_2).f1),.int .i64 ((rd_T49 l2 x29_2).f2),.int .i64 ((rd_T49 l2 x29_2).f3),.int .i64 ((rd_T49 l2 x29_2).f4),.int .i64 ((rd_T49 l2 x29_2).f5),.int .i64 ((rd_T49 l2 x29_2).f6),.int .i64 ((rd_T49 l2 x29_2).f7),.slice A204_8 ((rd_T49 l2 x29_2).f8).length c204_8,.slice A204_9 ((rd_T49 l2 x29_2).f9).length c204_9] 49 (0,0)) (bp10 BK205.out) hb);have n1_:=am (ss (by repeat (first|(with_reducible first|exact HB.out|apply sa|apply sn|apply sd|refine sx ?_ GE205.out)|exact HB.out)) hb);clear BK205;clear HB;have BK205:=n0_;have HB:=n1_;clear n0_ n1_;(try clear hb);(try clear hb2);(try clear hk);(try clear hi);obtain ⟨hcz57_0,hcz57_1,hcz57_2,hcz57_3,hcz57_4,hcz57_5,hcz57_6,hcz57_7,hcz57_8,hcz57_9⟩:=cq10 BK205.out;obtain ⟨hfz57_0,hfz57_1,hfz57_2,hfz57_3,hfz57_4,hfz57_5,hfz57_6,hfz57_7,hfz57_8,hfz57_9⟩:=fq10 BK205.out)))
                          go_meet
                          case rel => exact ⟨_,(false),(by first|rfl|(simp;done)|(simp [*];done)),H',⟨by have:=HJ4.out;have:=HK2.out;first|omega|exact Nat.le_refl _⟩,⟨by exact BK205.out⟩,⟨by repeat (first|(with_reducible first|exact HB.out|apply sa|apply sn|apply sd|refine sx ?_ GE205.out)|exact HB.out)⟩⟩
                    · replace c38:=Bool.eq_false_iff.mpr c38
                      subst c38
                      have H1 : (shape_RightRecords.j2 k2 x0_2 x1_2 a3 l2 (l2.length : Int) x29_2 true ((rd_T49 l2 x29_2).f0) ((rd_T49 l2 x29_2).f1) ((rd_T49 l2 x29_2).f2) ((rd_T49 l2 x29_2).f3) ((rd_T49 l2 x29_2).f4) ((rd_T49 l2 x29_2).f5) ((rd_T49 l2 x29_2).f6) ((rd_T49 l2 x29_2).f7) ((rd_T49 l2 x29_2).f8) ((rd_T49 l2 x29_2).f9)) = some r:=by rw [if_neg (show ¬ (false = true) by decide)] at H;exact H
                      clear H;have H:=H1;clear H1;have H':=am H;clear H;have hcz58_0 : w35.cell? ⟨gb205,0,none⟩ = some (.int .i64 0):=(bc BK205.out 0).trans rfl;have hcz58_1 : w35.cell? ⟨gb205,1,none⟩ = some (.int .i64 0):=(bc BK205.out 1).trans rfl;have hcz58_2 : w35.cell? ⟨gb205,2,none⟩ = some (.int .i64 0):=(bc BK205.out 2).trans rfl;have hcz58_3 : w35.cell? ⟨gb205,3,none⟩ = some (.int .i64 0):=(bc BK205.out 3).trans rfl;have hcz58_4 : w35.cell? ⟨gb205,4,none⟩ = some (.int .i64 0):=(bc BK205.out 4).trans rfl;have hcz58_5 : w35.cell? ⟨gb205,5,none⟩ = some (.int .i64 0):=(bc BK205.out 5).trans rfl;have hcz58_6 : w35.cell? ⟨gb205,6,none⟩ = some (.int .i64 0):=(bc BK205.out 6).trans rfl;have hcz58_7 : w35.cell? ⟨gb205,7,none⟩ = some (.int .i64 0):=(bc BK205.out 7).trans rfl;have hcz58_8 : w35.cell? ⟨gb205,8,none⟩ = some (.slice none 0 0):=(bc BK205.out 8).trans rfl;have hcz58_9 : w35.cell? ⟨gb205,9,none⟩ = some (.slice none 0 0):=(bc BK205.out 9).trans rfl;have hfz58_0:=bz BK205.out 0;have hfz58_1:=bz BK205.out 1;have hfz58_2:=bz BK205.out 2;have hfz58_3:=bz BK205.out 3;have hfz58_4:=bz BK205.out 4;have hfz58_5:=bz BK205.out 5;have hfz58_6:=bz BK205.out 6;have hfz58_7:=bz BK205.out 7;have hfz58_8:=bz BK205.out 8;have hfz58_9:=bz BK205.out 9
                      go_wp2_with (first|(go_at_call 47;(with_reducible refine (shape_sound.calls k2 ((rd_T49 l2 x29_2).f0) ((rd_T49 l2 x29_2).f1) ((rd_T49 l2 x29_2).f2) ((rd_T49 l2 x29_2).f3) ((rd_T49 l2 x29_2).f4) ((rd_T49 l2 x29_2).f5) ((rd_T49 l2 x29_2).f6) ((rd_T49 l2 x29_2).f7) _ _ ((rd_T49 l2 x29_2).f8) _ _ ((rd_T49 l2 x29_2).f9) x0_2 x1_2 false _ ?side1 ?side2 ?side3 ?side4 A37.out).mono ?_);(case side1 => exact Kd.C_below HR204_8.out (by repeat (first|(with_reducible first|exact HB.out|apply sa|apply sn|apply sd|refine sx ?_ GE205.out)|exact HB.out)));(case side2 => exact HC204_8.out);(case side3 => exact Kd.C_below HR204_9.out (by repeat (first|(with_reducible first|exact HB.out|apply sa|apply sn|apply sd|refine sx ?_ GE205.out)|exact HB.out)));(case side4 => exact HC204_9.out);rintro e w59 ⟨rfl,hb⟩;replace BK205:=am (bw (g:=gb205) (o:=.cells #[.int .i64 ((rd_T49 l2 x29_2).f0),.int .i64 ((rd_T49 l2 x29_2).f1),.int .i64 ((rd_T49 l2 x29_2).f2),.int .i64 ((rd_T49 l2 x29_2).f3),.int .i64 ((rd_T49 l2 x29_2).f4),.int .i64 ((rd_T49 l2 x29_2).f5),.int .i64 ((rd_T49 l2 x29_2).f6),.int .i64 ((rd_T49 l2 x29_2).f7),.slice A204_8 ((rd_T49 l2 x29_2).f8).length c204_8,.slice A204_9 ((rd_T49 l2 x29_2).f9).length c204_9] 49 (0,0)) (bp10 BK205.out) hb);replace HB:=am (ss (by repeat (first|(with_reducible first|exact HB.out|apply sa|apply sn|apply sd|refine sx ?_ GE205.out)|exact HB.out)) hb);(try clear hb);(try clear hb2);(try clear hk);(try clear hi)))
                      repeat (go_quiet (first|(go_at_call 47;(with_reducible refine (shape_sound.calls k2 ((rd_T49 l2 x29_2).f0) ((rd_T49 l2 x29_2).f1) ((rd_T49 l2 x29_2).f2) ((rd_T49 l2 x29_2).f3) ((rd_T49 l2 x29_2).f4) ((rd_T49 l2 x29_2).f5) ((rd_T49 l2 x29_2).f6) ((rd_T49 l2 x29_2).f7) _ _ ((rd_T49 l2 x29_2).f8) _ _ ((rd_T49 l2 x29_2).f9) x0_2 x1_2 false _ ?side1 ?side2 ?side3 ?side4 A37.out).mono ?_);(case side1 => exact Kd.C_below HR204_8.out (by repeat (first|(with_reducible first|exact HB.out|apply sa|apply sn|apply sd|refine sx ?_ GE205.out)|exact HB.out)));(case side2 => exact HC204_8.out);(case side3 => exact Kd.C_below HR204_9.out (by repeat (first|(with_reducible first|exact HB.out|apply sa|apply sn|apply sd|refine sx ?_ GE205.out)|exact HB.out)));(case side4 => exact HC204_9.out);rintro e w59 ⟨rfl,hb⟩;have n0_:=am (bw (g:=gb205) (o:=.cells #[.int .i64 ((rd_T49 l2 x29_2).f0),.int .i64 ((rd_T49 l2 x29_2).f1),.int .i64 ((rd_T49 l2 x29_2).f2),.int .i64 ((rd_T49 l2 x29_2).f3),.int .i64 ((rd_T49 l2 x29_2).f4),.int .i64 ((rd_T49 l2 x29_2).f5),.int .i64 ((rd_T49 l2 x29_2).f6),.int .i64 ((rd_T49 l2 x29_2).f7),.slice A204_8 ((rd_T49 l2 x29_2).f8).length c204_8,.slice A204_9 ((rd_T49 l2 x29_2).f9).length c204_9] 49 (0,0)) (bp10 BK205.out) hb);have n1_:=am (ss (by repeat (first|(with_reducible first|exact HB.out|apply sa|apply sn|apply sd|refine sx ?_ GE205.out)|exact HB.out)) hb);clear BK205;clear HB;have BK205:=n0_;have HB:=n1_;clear n0_ n1_;(try clear hb);(try clear hb2);(try clear hk);(try clear hi)));try go_wp2_with (first|(go_at_call 47;(with_reducible refine (shape_sound.calls k2 ((rd_T49 l2 x29_2).f0) ((rd_T49 l2 x29_2).f1) ((rd_T49 l2 x29_2).f2) ((rd_T49 l2 x29_2).f3) ((rd_T49 l2 x29_2).f4) ((rd_T49 l2 x29_2).f5) ((rd_T49 l2 x29_2).f6) ((rd_T49 l2 x29_2).f7) _ _ ((rd_T49 l2 x29_2).f8) _ _ ((rd_T49 l2 x29_2).f9) x0_2 x1_2 false _ ?side1 ?side2 ?side3 ?side4 A37.out).mono ?_);(case side1 => exact Kd.C_below HR204_8.out (by repeat (first|(with_reducible first|exact HB.out|apply sa|apply sn|apply sd|refine sx ?_ GE205.out)|exact HB.out)));(case side2 => exact HC204_8.out);(case side3 => exact Kd.C_below HR204_9.out (by repeat (first|(with_reducible first|exact HB.out|apply sa|apply sn|apply sd|refine sx ?_ GE205.out)|exact HB.out)));(case side4 => exact HC204_9.out);rintro e w59 ⟨rfl,hb⟩;have n0_:=am (bw (g:=gb205) (o:=.cells #[.int .i64 ((rd_T49 l2 x29_2).f0),.int .i64 ((rd_T49 l2 x29_2).f1),.int .i64 ((rd_T49 l2 x29_2).f2),.int .i64 ((rd_T49 l2 x29_2).f3),.int .i64 ((rd_T49 l2 x29_2).f4),.int .i64 ((rd_T49 l2 x29_2).f5),.int .i64 ((rd_T49 l2 x29_2).f6),.int .i64 ((rd_T49 l2 x29_2).f7),.slice A204_8 ((rd_T49 l2 x29_2).f8).length c204_8,.slice A204_9 ((rd_T49 l2 x29_2).f9).length c204_9] 49 (0,0)) (bp10 BK205.out) hb);have n1_:=am (ss (by repeat (first|(with_reducible first|exact HB.out|apply sa|apply sn|apply sd|refine sx ?_ GE205.out)|exact HB.out)) hb);clear BK205;clear HB;have BK205:=n0_;have HB:=n1_;clear n0_ n1_;(try clear hb);(try clear hb2);(try clear hk);(try clear hi))))
                      go_meet
                      case rel => exact ⟨_,(true),(by first|rfl|(simp;done)|(simp [*];done)),H',⟨by have:=HJ4.out;have:=HK2.out;first|omega|exact Nat.le_refl _⟩,⟨by exact BK205.out⟩,⟨by repeat (first|(with_reducible first|exact HB.out|apply sa|apply sn|apply sd|refine sx ?_ GE205.out)|exact HB.out)⟩⟩
                  case rest =>
                    clear HC34
                    try clear c2
                    try clear p2
                    try clear q2
                    try clear hx2
                    try clear c3
                    try clear c4
                    try clear c5
                    try clear c7
                    try clear c9
                    try clear c20
                    try clear p20
                    try clear q20
                    try clear hx20
                    try clear c30
                    try clear c31
                    try clear c31b0
                    try clear c32
                    try clear c32b0
                    try clear c33
                    try clear c33b0
                    try clear c38
                    try clear c39
                    try clear c39b0
                    try clear c39b1
                    try clear c40
                    try clear c40b0
                    try clear c40b1
                    try clear c41
                    try clear c41b0
                    try clear c41b1
                    try clear c51
                    try clear c51b0
                    try clear c51b1
                    try clear hcz36_0
                    try clear hcz36_1
                    try clear hcz36_2
                    try clear hcz36_3
                    try clear hcz36_4
                    try clear hcz36_5
                    try clear hcz36_6
                    try clear hcz36_7
                    try clear hcz36_8
                    try clear hcz36_9
                    try clear hcz42_0
                    try clear hcz42_1
                    try clear hcz42_2
                    try clear hcz42_3
                    try clear hcz42_4
                    try clear hcz42_5
                    try clear hcz42_6
                    try clear hcz42_7
                    try clear hcz42_8
                    try clear hcz42_9
                    try clear hcz44_0
                    try clear hcz44_1
                    try clear hcz44_2
                    try clear hcz44_3
                    try clear hcz44_4
                    try clear hcz44_5
                    try clear hcz44_6
                    try clear hcz44_7
                    try clear hcz44_8
                    try clear hcz44_9
                    try clear hcz45_0
                    try clear hcz45_1
                    try clear hcz45_2
                    try clear hcz45_3
                    try clear hcz45_4
                    try clear hcz45_5
                    try clear hcz45_6
                    try clear hcz45_7
                    try clear hcz45_8
                    try clear hcz45_9
                    try clear hcz47_0
                    try clear hcz47_1
                    try clear hcz47_2
                    try clear hcz47_3
                    try clear hcz47_4
                    try clear hcz47_5
                    try clear hcz47_6
                    try clear hcz47_7
                    try clear hcz47_8
                    try clear hcz47_9
                    try clear hcz48_0
                    try clear hcz48_1
                    try clear hcz48_2
                    try clear hcz48_3
                    try clear hcz48_4
                    try clear hcz48_5
                    try clear hcz48_6
                    try clear hcz48_7
                    try clear hcz48_8
                    try clear hcz48_9
                    try clear hcz50_0
                    try clear hcz50_1
                    try clear hcz50_2
                    try clear hcz50_3
                    try clear hcz50_4
                    try clear hcz50_5
                    try clear hcz50_6
                    try clear hcz50_7
                    try clear hcz50_8
                    try clear hcz50_9
                    try clear hcz52_0
                    try clear hcz52_1
                    try clear hcz52_2
                    try clear hcz52_3
                    try clear hcz52_4
                    try clear hcz52_5
                    try clear hcz52_6
                    try clear hcz52_7
                    try clear hcz52_8
                    try clear hcz52_9
                    try clear hcz54_0
                    try clear hcz54_1
                    try clear hcz54_2
                    try clear hcz54_3
                    try clear hcz54_4
                    try clear hcz54_5
                    try clear hcz54_6
                    try clear hcz54_7
                    try clear hcz54_8
                    try clear hcz54_9
                    try clear hcz55_0
                    try clear hcz55_1
                    try clear hcz55_2
                    try clear hcz55_3
                    try clear hcz55_4
                    try clear hcz55_5
                    try clear hcz55_6
                    try clear hcz55_7
                    try clear hcz55_8
                    try clear hcz55_9
                    try clear hcz57_0
                    try clear hcz57_1
                    try clear hcz57_2
                    try clear hcz57_3
                    try clear hcz57_4
                    try clear hcz57_5
                    try clear hcz57_6
                    try clear hcz57_7
                    try clear hcz57_8
                    try clear hcz57_9
                    try clear hcz58_0
                    try clear hcz58_1
                    try clear hcz58_2
                    try clear hcz58_3
                    try clear hcz58_4
                    try clear hcz58_5
                    try clear hcz58_6
                    try clear hcz58_7
                    try clear hcz58_8
                    try clear hcz58_9
                    try clear hfz36_0
                    try clear hfz36_1
                    try clear hfz36_2
                    try clear hfz36_3
                    try clear hfz36_4
                    try clear hfz36_5
                    try clear hfz36_6
                    try clear hfz36_7
                    try clear hfz36_8
                    try clear hfz36_9
                    try clear hfz42_0
                    try clear hfz42_1
                    try clear hfz42_2
                    try clear hfz42_3
                    try clear hfz42_4
                    try clear hfz42_5
                    try clear hfz42_6
                    try clear hfz42_7
                    try clear hfz42_8
                    try clear hfz42_9
                    try clear hfz44_0
                    try clear hfz44_1
                    try clear hfz44_2
                    try clear hfz44_3
                    try clear hfz44_4
                    try clear hfz44_5
                    try clear hfz44_6
                    try clear hfz44_7
                    try clear hfz44_8
                    try clear hfz44_9
                    try clear hfz45_0
                    try clear hfz45_1
                    try clear hfz45_2
                    try clear hfz45_3
                    try clear hfz45_4
                    try clear hfz45_5
                    try clear hfz45_6
                    try clear hfz45_7
                    try clear hfz45_8
                    try clear hfz45_9
                    try clear hfz47_0
                    try clear hfz47_1
                    try clear hfz47_2
                    try clear hfz47_3
                    try clear hfz47_4
                    try clear hfz47_5
                    try clear hfz47_6
                    try clear hfz47_7
                    try clear hfz47_8
                    try clear hfz47_9
                    try clear hfz48_0
                    try clear hfz48_1
                    try clear hfz48_2
                    try clear hfz48_3
                    try clear hfz48_4
                    try clear hfz48_5
                    try clear hfz48_6
                    try clear hfz48_7
                    try clear hfz48_8
                    try clear hfz48_9
                    try clear hfz50_0
                    try clear hfz50_1
                    try clear hfz50_2
                    try clear hfz50_3
                    try clear hfz50_4
                    try clear hfz50_5
                    try clear hfz50_6
                    try clear hfz50_7
                    try clear hfz50_8
                    try clear hfz50_9
                    try clear hfz52_0
                    try clear hfz52_1
                    try clear hfz52_2
                    try clear hfz52_3
                    try clear hfz52_4
                    try clear hfz52_5
                    try clear hfz52_6
                    try clear hfz52_7
                    try clear hfz52_8
                    try clear hfz52_9
                    try clear hfz54_0
                    try clear hfz54_1
                    try clear hfz54_2
                    try clear hfz54_3
                    try clear hfz54_4
                    try clear hfz54_5
                    try clear hfz54_6
                    try clear hfz54_7
                    try clear hfz54_8
                    try clear hfz54_9
                    try clear hfz55_0
                    try clear hfz55_1
                    try clear hfz55_2
                    try clear hfz55_3
                    try clear hfz55_4
                    try clear hfz55_5
                    try clear hfz55_6
                    try clear hfz55_7
                    try clear hfz55_8
                    try clear hfz55_9
                    try clear hfz57_0
                    try clear hfz57_1
                    try clear hfz57_2
                    try clear hfz57_3
                    try clear hfz57_4
                    try clear hfz57_5
                    try clear hfz57_6
                    try clear hfz57_7
                    try clear hfz57_8
                    try clear hfz57_9
                    try clear hfz58_0
                    try clear hfz58_1
                    try clear hfz58_2
                    try clear hfz58_3
                    try clear hfz58_4
                    try clear hfz58_5
                    try clear hfz58_6
                    try clear hfz58_7
                    try clear hfz58_8
                    try clear hfz58_9
                    try clear hx204_0
                    try clear hx204_1
                    try clear hx204_2
                    try clear hx204_3
                    try clear hx204_4
                    try clear hx204_5
                    try clear hx204_6
                    try clear hx204_7
                    try clear hx204_8
                    try clear hx204_9
                    try clear p2
                    try clear p204
                    try clear q204
                    obtain ⟨kq,x55_33,rfl,HA,HJ33,BK205,HB⟩:=hcut
                    cases kq with
                    | zero => exact absurd HA.out (by simp [shape_RightRecords.j2])
                    | succ kj33 =>
                      have H:=HA.out;clear HA;simp only [shape_RightRecords.j2] at H
                      by_cases c60 : x55_33 = true
                      · subst c60
                        have H1 : (some false) = some r:=by rw [if_pos rfl] at H;exact H
                        clear H;have H:=H1;clear H1;obtain rfl:=Option.some.inj H
                        go_wp2
                        repeat (go_quiet (fail);try go_wp2)
                        go_ret
                        exact ⟨by first|rfl|(simp [errW_none,errW_some] <;> rfl)|(simp [*,errW_none,errW_some] <;> rfl),by repeat (first|(with_reducible first|exact HB.out|apply sa|apply sn|apply sd|refine sx ?_ GE205.out)|exact HB.out)⟩
                      · replace c60:=Bool.eq_false_iff.mpr c60
                        subst c60
                        have H1 : (if ((rd_T49 l2 x29_2).f0) = 3 then (shape_RightRecords.l0 kj33 (((rd_T49 l2 x29_2).f8).length : Int) (((rd_T49 l2 x29_2).f9).length : Int) a3 l2 (l2.length : Int) (wrap64 (x29_2 + 1))) else (shape_RightRecords.l0 kj33 x0_2 x1_2 a3 l2 (l2.length : Int) (wrap64 (x29_2 + 1)))) = some r:=by rw [if_neg (show ¬ (false = true) by decide)] at H;exact H
                        clear H;have H:=H1;clear H1
                        by_cases c61 : ((rd_T49 l2 x29_2).f0) = 3
                        · rw [if_pos c61] at H
                          have c61b0 : (((rd_T49 l2 x29_2).f0) == 3) = true:=beq_iff_eq.mpr c61;have c61b1 : (((rd_T49 l2 x29_2).f0) != 3) = false:=bne_eq_false_iff_eq.mpr c61;clear c61;have H':=am H;clear H;have hcz62_0 : wc.cell? ⟨gb205,0,none⟩ = some (.int .i64 ((rd_T49 l2 x29_2).f0)):=(bc BK205.out 0).trans rfl;have hcz62_1 : wc.cell? ⟨gb205,1,none⟩ = some (.int .i64 ((rd_T49 l2 x29_2).f1)):=(bc BK205.out 1).trans rfl;have hcz62_2 : wc.cell? ⟨gb205,2,none⟩ = some (.int .i64 ((rd_T49 l2 x29_2).f2)):=(bc BK205.out 2).trans rfl;have hcz62_3 : wc.cell? ⟨gb205,3,none⟩ = some (.int .i64 ((rd_T49 l2 x29_2).f3)):=(bc BK205.out 3).trans rfl;have hcz62_4 : wc.cell? ⟨gb205,4,none⟩ = some (.int .i64 ((rd_T49 l2 x29_2).f4)):=(bc BK205.out 4).trans rfl;have hcz62_5 : wc.cell? ⟨gb205,5,none⟩ = some (.int .i64 ((rd_T49 l2 x29_2).f5)):=(bc BK205.out 5).trans rfl;have hcz62_6 : wc.cell? ⟨gb205,6,none⟩ = some (.int .i64 ((rd_T49 l2 x29_2).f6)):=(bc BK205.out 6).trans rfl;have hcz62_7 : wc.cell? ⟨gb205,7,none⟩ = some (.int .i64 ((rd_T49 l2 x29_2).f7)):=(bc BK205.out 7).trans rfl;have hcz62_8 : wc.cell? ⟨gb205,8,none⟩ = some (.slice A204_8 ((rd_T49 l2 x29_2).f8).length c204_8):=(bc BK205.out 8).trans rfl;have hcz62_9 : wc.cell? ⟨gb205,9,none⟩ = some (.slice A204_9 ((rd_T49 l2 x29_2).f9).length c204_9):=(bc BK205.out 9).trans rfl;have hfz62_0:=bz BK205.out 0;have hfz62_1:=bz BK205.out 1;have hfz62_2:=bz BK205.out 2;have hfz62_3:=bz BK205.out 3;have hfz62_4:=bz BK205.out 4;have hfz62_5:=bz BK205.out 5;have hfz62_6:=bz BK205.out 6;have hfz62_7:=bz BK205.out 7;have hfz62_8:=bz BK205.out 8;have hfz62_9:=bz BK205.out 9
                          go_wp2
                          repeat (go_quiet (fail);try go_wp2)
                          go_roundg kj33
                          case measure => have:=HJ4.out;have:=HK2.out;have:=HJ33.out;omega
                          case rel => exact ⟨((((rd_T49 l2 x29_2).f8).length : Int)),((((rd_T49 l2 x29_2).f9).length : Int)),(wrap64 (x29_2 + 1)),(by first|rfl|(simp;done)|(simp [*];done)),(by first|rfl|(simp;done)|(simp [*];done)),(by first|rfl|(simp;done)|(simp [*];done)),H',⟨by have:=HJ4.out;have:=HK2.out;have:=HJ33.out;omega⟩,⟨by repeat (first|(with_reducible first|exact HB.out|apply sa|apply sn|apply sd|refine sx ?_ GE205.out)|exact HB.out)⟩⟩
                        · rw [if_neg c61] at H
                          have c61b0 : (((rd_T49 l2 x29_2).f0) == 3) = false:=beq_eq_false_iff_ne.mpr c61;have c61b1 : (((rd_T49 l2 x29_2).f0) != 3) = true:=bne_iff_ne.mpr c61;have H':=am H;clear H;have hcz63_0 : wc.cell? ⟨gb205,0,none⟩ = some (.int .i64 ((rd_T49 l2 x29_2).f0)):=(bc BK205.out 0).trans rfl;have hcz63_1 : wc.cell? ⟨gb205,1,none⟩ = some (.int .i64 ((rd_T49 l2 x29_2).f1)):=(bc BK205.out 1).trans rfl;have hcz63_2 : wc.cell? ⟨gb205,2,none⟩ = some (.int .i64 ((rd_T49 l2 x29_2).f2)):=(bc BK205.out 2).trans rfl;have hcz63_3 : wc.cell? ⟨gb205,3,none⟩ = some (.int .i64 ((rd_T49 l2 x29_2).f3)):=(bc BK205.out 3).trans rfl;have hcz63_4 : wc.cell? ⟨gb205,4,none⟩ = some (.int .i64 ((rd_T49 l2 x29_2).f4)):=(bc BK205.out 4).trans rfl;have hcz63_5 : wc.cell? ⟨gb205,5,none⟩ = some (.int .i64 ((rd_T49 l2 x29_2).f5)):=(bc BK205.out 5).trans rfl;have hcz63_6 : wc.cell? ⟨gb205,6,none⟩ = some (.int .i64 ((rd_T49 l2 x29_2).f6)):=(bc BK205.out 6).trans rfl;have hcz63_7 : wc.cell? ⟨gb205,7,none⟩ = some (.int .i64 ((rd_T49 l2 x29_2).f7)):=(bc BK205.out 7).trans rfl;have hcz63_8 : wc.cell? ⟨gb205,8,none⟩ = some (.slice A204_8 ((rd_T49 l2 x29_2).f8).length c204_8):=(bc BK205.out 8).trans rfl;have hcz63_9 : wc.cell? ⟨gb205,9,none⟩ = some (.slice A204_9 ((rd_T49 l2 x29_2).f9).length c204_9):=(bc BK205.out 9).trans rfl;have hfz63_0:=bz BK205.out 0;have hfz63_1:=bz BK205.out 1;have hfz63_2:=bz BK205.out 2;have hfz63_3:=bz BK205.out 3;have hfz63_4:=bz BK205.out 4;have hfz63_5:=bz BK205.out 5;have hfz63_6:=bz BK205.out 6;have hfz63_7:=bz BK205.out 7;have hfz63_8:=bz BK205.out 8;have hfz63_9:=bz BK205.out 9
                          go_wp2
                          repeat (go_quiet (fail);try go_wp2)
                          go_roundg kj33
                          case measure => have:=HJ4.out;have:=HK2.out;have:=HJ33.out;omega
                          case rel => exact ⟨(x0_2),(x1_2),(wrap64 (x29_2 + 1)),(by first|rfl|(simp;done)|(simp [*];done)),(by first|rfl|(simp;done)|(simp [*];done)),(by first|rfl|(simp;done)|(simp [*];done)),H',⟨by have:=HJ4.out;have:=HK2.out;have:=HJ33.out;omega⟩,⟨by repeat (first|(with_reducible first|exact HB.out|apply sa|apply sn|apply sd|refine sx ?_ GE205.out)|exact HB.out)⟩⟩
                · rw [if_neg c33] at H
                  exact absurd H (by simp)
              · rw [if_neg c32] at H
                exact absurd H (by simp)
            · rw [if_neg c31] at H
              have c31b0 : decide (x29_2 < (l2.length : Int)) = false:=decide_eq_false c31;clear c31;obtain rfl:=Option.some.inj H
              go_wp2
              repeat (go_quiet (fail);try go_wp2)
              go_ret
              exact ⟨by first|rfl|(simp [errW_none,errW_some] <;> rfl)|(simp [*,errW_none,errW_some] <;> rfl),by repeat (first|(with_reducible first|exact HB.out|apply sa|apply sn|apply sd)|exact HB.out)⟩

end Go.Proofs.Ytlldbmodidhidaa.P
