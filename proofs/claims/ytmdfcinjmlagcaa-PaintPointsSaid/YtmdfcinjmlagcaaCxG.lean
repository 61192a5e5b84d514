/- Printed by printx.py (wip/tool) out of the translation: plain functions that tell what the program answers,and the proofs that the program comes to these answers,for all arguments of their kinds. Lean checks it. -/
import Derived.Test.YtmdfcinjmlagcaaCwR
import Derived.Test.YtmdfcinjmlagcaaShort
import Derived.Test.YtmdfcinjmlagcaaPx0
namespace Go.Proofs.Ytmdfcinjmlagcaa.P
open Go.RowKit Go.Proofs.YtmdfcinjmlagcaaW.PrintWords Go.Proofs.YtmdfcinjmlagcaaW.PrintLast Go.Proofs.YtmdfcinjmlagcaaW.PrintMore
attribute [local go_sem] max2_int min2_int max_two min_two max_three min_three max_four min_four max_five min_five max_six min_six   -- for this text's walks alone
set_option linter.unusedVariables false
set_option linter.unusedSimpArgs false

/-! ### paint_Find: function 17 -/
def paint_Find.l0 : Nat → Int → List (S43) → Int → Int → Option (Int × Int × Int × (List (S23)) × Bool)
  | 0,_,_,_,_ => none
  | k + 1,x1,x8,x9,x10 => if x10 < x9 then (if 0 ≤ x10 then (if x10 < (x8.length : Int) then (if ((rd_T43 x8 x10).f0) = x1 then (some ((rd_T43 x8 x10).f0,(rd_T43 x8 x10).f1,(rd_T43 x8 x10).f2,(rd_T43 x8 x10).f3,true)) else (paint_Find.l0 k x1 x8 x9 (wrap64 (x10 + 1)))) else (none)) else (none)) else (some (0,0,0,([] : List (S23)),false))
def paint_Find.f (k : Nat) (l0 : List (S43)) (a1 : Int) : Option (Int × Int × Int × (List (S23)) × Bool):=paint_Find.l0 k a1 l0 (l0.length : Int) 0
theorem paint_Find.mono_l : ∀ k,(∀ y0 y1 y2 y3,LeO (paint_Find.l0 k y0 y1 y2 y3) (paint_Find.l0 (k + 1) y0 y1 y2 y3))
  | 0 => fun _ _ _ _ r h => by simp [paint_Find.l0] at h
  | k + 1 => by
    have ih0:=paint_Find.mono_l k
    · intro y0 y1 y2 y3
      unfold paint_Find.l0
      repeat' first
      | (with_reducible exact ih0 _ _ _ _)
      | (with_reducible exact LeO.refl _)
      | (with_reducible exact LeO.none _)
      | (with_reducible refine LeO.ite ?_ ?_)
      | (with_reducible refine LeO.bind ?_ (fun _ => ?_))
      | exact ih0 _ _ _ _
      | exact LeO.none _
      | refine LeO.ite ?_ ?_
      | refine LeO.bind ?_ (fun _ => ?_)
theorem paint_Find.mono : ∀ a0 a1 k,LeO (paint_Find.f k a0 a1) (paint_Find.f (k + 1) a0 a1):=by
  intro a0 a1 k
  have ih0:=paint_Find.mono_l k
  unfold paint_Find.f
  repeat' first
      | (with_reducible exact ih0 _ _ _ _)
      | (with_reducible exact LeO.refl _)
      | (with_reducible exact LeO.none _)
      | (with_reducible refine LeO.ite ?_ ?_)
      | (with_reducible refine LeO.bind ?_ (fun _ => ?_))
      | exact ih0 _ _ _ _
      | exact LeO.none _
      | refine LeO.ite ?_ ?_
      | refine LeO.bind ?_ (fun _ => ?_)
set_option maxHeartbeats 8000000 in
set_option maxRecDepth 100000 in
theorem paint_Find.calls (k : Nat) (P0_ : Nat → Prop) (A0 : Option Addr) (c0 : Nat) (l0 : List (S43)) (a1 : Int) (r1 : Int) (r2 : Int) (r3 : Int) (r4 : List (S23)) (r5 : Bool) (w : World) (hs0 : Kd.V k43 43 w w.heap.size (fun k_ => P0_ k_) (.slice A0 l0.length c0) l0) (h : paint_Find.f k l0 a1 = some (r1,r2,r3,r4,r5)) :
    Calls Try.prog 17 #[.slice A0 l0.length c0,.int .i64 a1] w fun e w' => ∃ v3_ : Value,e = .returned (.tuple #[.agg #[.int .i64 r1,.int .i64 r2,.int .i64 r3,v3_],.bool r5]) ∧ Kd.V k23 23 w' w.heap.size (fun k_ => (P0_ k_ ∨ w.heap.size ≤ k_)) v3_ r4 ∧ Below w.heap.size w w':=by
  have hu43:=Try.underlying43;have HO0:=am (show Kd.V k43 43 w w.heap.size (fun k_ => (P0_ k_ ∨ w.heap.size ≤ k_)) (.slice A0 l0.length c0) l0 from Kd.V_mono hs0 (fun k_ hk => .inl hk));have HB:=am (Below.refl w.heap.size w);have H : (paint_Find.l0 k a1 l0 (l0.length : Int) 0) = some (r1,r2,r3,r4,r5):=h;clear h;have H':=am H;clear H
  go_enter Try.func17,Try.ntmps17
  go_wp2_with (first|((with_reducible refine gate_dst (N:=4) rfl ?_);refine box_event ?hg (N:=4) ?hd (cs:=#[.int .i64 0,.int .i64 0,.int .i64 0,.slice none 0 0]) (t:=43) ?hr ?_;(case hd => rfl);(case hg => rfl);(case hr => first|(go_simp;done)|(go_simp;rfl));intro gb178 hg w3 hbox hb;replace HO0:=am (vE (by (with_reducible repeat (first|apply Kd.V_alloc|apply Kd.V_drewN|apply Kd.V_drew));exact HO0.out) hg hb);have BK178:=am (hbox);have GW178:=am ((by rw [hg];exact (sz (by repeat (first|(with_reducible first|exact HB.out|apply sa|apply sn|apply sd)|exact HB.out))) : w.heap.size ≤ gb178));have GE178:=am ((by rw [hg];exact (sz (by repeat (first|(with_reducible first|exact HB.out|apply sa|apply sn|apply sd)|exact HB.out))) : w.heap.size ≤ gb178));replace HB:=am (ss (by repeat (first|(with_reducible first|exact HB.out|apply sa|apply sn|apply sd)|exact HB.out)) hb);clear hb hbox hg))
  go_loopg [10] k (fun kq v10 w' => ∃ (x10_1 : Int) (x179000_1 : Int) (x179001_1 : Int) (x179002_1 : Int),v10 = .int .i64 x10_1 ∧ Aside0 (paint_Find.l0 kq a1 l0 (l0.length : Int) x10_1 = some (r1,r2,r3,r4,r5)) ∧ Aside0 (kq ≤ k) ∧ Aside0 (Kd.V k43 43 w' w.heap.size (fun k_ => (P0_ k_ ∨ w.heap.size ≤ k_) ∧ k_ ≠ gb178) (.slice A0 l0.length c0) l0) ∧ Aside0 (w'.heap[gb178]? = some (.cells #[.int .i64 x179000_1,.int .i64 x179001_1,.int .i64 x179002_1,(.slice none 0 0)] 43 (0,0))) ∧ Aside0 (Below w.heap.size w w'))
  case atStart => exact ⟨(0),(0),(0),(0),(by first|rfl|(simp;done)|(simp [*];done)),H',⟨Nat.le_refl _⟩,⟨by (with_reducible repeat (first|apply Kd.V_alloc|apply Kd.V_drewN|apply Kd.V_drew));exact HO0.out⟩,⟨by exact BK178.out⟩,⟨by repeat (first|(with_reducible first|exact HB.out|apply sa|apply sn|apply sd|refine sx ?_ GE178.out)|exact HB.out)⟩⟩
  case round =>
    clear H'
    try clear c1
    try clear p2
    obtain ⟨x10_1,x179000_1,x179001_1,x179002_1,rfl,HA,HK1,HO_8,BK178,HB⟩:=hrel
    cases gk with
    | zero => exact absurd HA.out (by simp [paint_Find.l0])
    | succ k1 =>
      have H:=HA.out;clear HA;simp only [paint_Find.l0] at H
      by_cases c4 : x10_1 < (l0.length : Int)
      · rw [if_pos c4] at H
        have c4b0 : decide (x10_1 < (l0.length : Int)) = true:=decide_eq_true c4;clear c4
        by_cases c5 : 0 ≤ x10_1
        · rw [if_pos c5] at H
          have c5b0 : decide (0 ≤ x10_1) = true:=decide_eq_true c5;clear c5
          by_cases c6 : x10_1 < (l0.length : Int)
          · rw [if_pos c6] at H
            have c6b0 : decide (x10_1 < (l0.length : Int)) = true:=decide_eq_true c6;clear c6
            by_cases c7 : ((rd_T43 l0 x10_1).f0) = a1
            · rw [if_pos c7] at H
              have c7b0 : (((rd_T43 l0 x10_1).f0) == a1) = true:=beq_iff_eq.mpr c7;have c7b1 : (((rd_T43 l0 x10_1).f0) != a1) = false:=bne_eq_false_iff_eq.mpr c7;clear c7;simp only [Option.some.injEq,Prod.mk.injEq] at H;obtain ⟨rfl,rfl,rfl,rfl,rfl⟩:=H;have p179 : 0 ≤ (x10_1 : Int):=of_decide_eq_true (by first|(with_reducible assumption)|assumption);have q179 : x10_1 < (l0.length : Int):=of_decide_eq_true (by first|(with_reducible assumption)|assumption);obtain ⟨ad179,A179_3,c179_3,e179,hx179_0,hx179_1,hx179_2,hx179_3,hl179_3,hi179_3⟩:=at_T43 (Kd.V_reads' HO_8.out).2.2 x10_1 p179 q179
              cases e179
              obtain ⟨ce179,hce179,hMe179,hcc179⟩:=Kd.V_get HO_8.out z43 x10_1 p179 (by first|exact q179|exact of_decide_eq_true (by first|(with_reducible assumption)|assumption)|(have e_:=(Kd.V_reads' HO_8.out).1;omega));obtain ⟨ua179_3,uc179_3,rfl,ul179_3,ge179_3⟩:=k43_openF hMe179;have hv179_3:=hcc179 3 _ rfl;rw [add_field _ _ 3 (by omega)] at hv179_3;replace hv179_3:=Option.some.inj (hv179_3.symm.trans hx179_3)
              injection hv179_3 with hva_ hvn_ hvc_
              rw [hva_] at ge179_3;rw [hvc_] at ul179_3;have HL179_3:=am (show Kd.V k23 23 _ w.heap.size _ _ ((rd_T43 l0 x10_1).f3) from Kd.V_mk ul179_3 ge179_3);clear hva_ hvn_ hvc_ ge179_3 ul179_3;clear hcc179 hce179;have HR179_3:=am hi179_3;have HC179_3:=am hl179_3;clear hi179_3 hl179_3;replace p179:=eq_true p179;replace q179:=eq_true q179
              go_wp2_with (first|((with_reducible refine gate_dst (N:=7) rfl ?_);refine box_event ?hg (N:=7) ?hd (cs:=#[.int .i64 0,.int .i64 0,.int .i64 0,.slice none 0 0]) (t:=43) ?hr ?_;(case hd => rfl);(case hg => rfl);(case hr => first|(go_simp;done)|(go_simp;rfl));intro gb180 hg w8 hbox hb;replace HO_8:=am (vE (by (with_reducible repeat (first|apply Kd.V_alloc|apply Kd.V_drewN|apply Kd.V_drew));exact HO_8.out) hg hb);replace HL179_3:=am (vE (by (with_reducible repeat (first|apply Kd.V_alloc|apply Kd.V_drewN|apply Kd.V_drew));exact HL179_3.out) hg hb);replace HR179_3:=am (Kd.C_below (by repeat (first|(with_reducible exact HR179_3.out)|(with_reducible refine Kd.C_alloc ?_ _)|(with_reducible refine Kd.C_drewN ?_ _)|(with_reducible refine Kd.C_drew ?_)|exact HR179_3.out)) hb);have BK180:=am (hbox);obtain ⟨h1_,GW180⟩:=sg (by repeat (first|(with_reducible first|exact HB.out|apply sa|apply sn|apply sd|refine sx ?_ GE178.out)|exact HB.out)) hb hg;replace HB:=h1_;clear h1_;have GE180:=GW180;have NB178_180:=nb (by exact BK178.out) hg;have NB180_178:=ng (by exact BK178.out) hg;replace BK178:=am (bw (by exact BK178.out) hb);clear hb hbox hg;have hnb9:=NB180_178.out;have hnc9:=NB178_180.out;obtain ⟨hcz10_0,hcz10_1,hcz10_2,hcz10_3⟩:=cq4 BK180.out;obtain ⟨hfz10_0,hfz10_1,hfz10_2,hfz10_3⟩:=fq4 BK180.out;obtain ⟨hcz11_0,hcz11_1,hcz11_2,hcz11_3⟩:=cq4 BK178.out;obtain ⟨hfz11_0,hfz11_1,hfz11_2,hfz11_3⟩:=fq4 BK178.out))
              refine bodyPost_ret (results_ct rfl _ _ gb178 43 #[.int .i64 ((rd_T43 l0 x10_1).f0),.int .i64 ((rd_T43 l0 x10_1).f1),.int .i64 ((rd_T43 l0 x10_1).f2),.slice A179_3 ((rd_T43 l0 x10_1).f3).length c179_3] (0,0) _ rfl (by (with_reducible repeat (first|refine bn ?_ _|refine bd ?_|refine ba ?_ _));refine bp (cs:=#[.int .i64 ((rd_T43 l0 x10_1).f0),.int .i64 ((rd_T43 l0 x10_1).f1),.int .i64 ((rd_T43 l0 x10_1).f2),.slice none 0 0]) ?_ 3 _ rfl;(with_reducible repeat (first|refine bn ?_ _|refine bd ?_|refine ba ?_ _));refine bp (cs:=#[.int .i64 ((rd_T43 l0 x10_1).f0),.int .i64 ((rd_T43 l0 x10_1).f1),.int .i64 x179002_1,.slice none 0 0]) ?_ 2 _ rfl;(with_reducible repeat (first|refine bn ?_ _|refine bd ?_|refine ba ?_ _));refine bp (cs:=#[.int .i64 ((rd_T43 l0 x10_1).f0),.int .i64 x179001_1,.int .i64 x179002_1,.slice none 0 0]) ?_ 1 _ rfl;(with_reducible repeat (first|refine bn ?_ _|refine bd ?_|refine ba ?_ _));refine bp (cs:=#[.int .i64 x179000_1,.int .i64 x179001_1,.int .i64 x179002_1,.slice none 0 0]) ?_ 0 _ rfl;(with_reducible repeat (first|refine bn ?_ _|refine bd ?_|refine ba ?_ _));refine bf ?_ NB178_180.out _;(with_reducible repeat (first|refine bn ?_ _|refine bd ?_|refine ba ?_ _));refine bf ?_ NB178_180.out _;(with_reducible repeat (first|refine bn ?_ _|refine bd ?_|refine ba ?_ _));refine bf ?_ NB178_180.out _;(with_reducible repeat (first|refine bn ?_ _|refine bd ?_|refine ba ?_ _));refine bf ?_ NB178_180.out _;(with_reducible repeat (first|refine bn ?_ _|refine bd ?_|refine ba ?_ _));exact BK178.out) Try.underlying43 rfl (by kernel_rfl)) rfl ?_
              exact ⟨_,by first|rfl|(simp [errW_none,errW_some] <;> rfl)|(simp [*,errW_none,errW_some] <;> rfl),by (with_reducible repeat (first|apply Kd.V_alloc|apply Kd.V_drewN|apply Kd.V_drew));exact Kd.V_mono (vf (vf (vf (vf (Kd.V_far (p:=⟨gb180,3,none⟩) (Kd.V_far (p:=⟨gb180,2,none⟩) (Kd.V_far (p:=⟨gb180,1,none⟩) (Kd.V_far (p:=⟨gb180,0,none⟩) (Kd.V_mono (vp HL179_3.out) (fun k_ hk => (⟨hk,hk.1.1.2⟩ : _ ∧ k_ ≠ gb178))) (fun _ hk => hk.1.2) (.int .i64 ((rd_T43 l0 x10_1).f0))) (fun _ hk => hk.1.2) (.int .i64 ((rd_T43 l0 x10_1).f1))) (fun _ hk => hk.1.2) (.int .i64 ((rd_T43 l0 x10_1).f2))) (fun _ hk => hk.1.2) (.slice A179_3 ((rd_T43 l0 x10_1).f3).length c179_3)))))) (fun _ hk => hk.1.1.1.1),by repeat (first|(with_reducible first|exact HB.out|apply sa|apply sn|apply sd|refine sy ?_ (by assumption))|exact HB.out)⟩
            · rw [if_neg c7] at H
              have c7b0 : (((rd_T43 l0 x10_1).f0) == a1) = false:=beq_eq_false_iff_ne.mpr c7;have c7b1 : (((rd_T43 l0 x10_1).f0) != a1) = true:=bne_iff_ne.mpr c7;have H':=am H;clear H;have p179 : 0 ≤ (x10_1 : Int):=of_decide_eq_true (by first|(with_reducible assumption)|assumption);have q179 : x10_1 < (l0.length : Int):=of_decide_eq_true (by first|(with_reducible assumption)|assumption);obtain ⟨ad179,A179_3,c179_3,e179,hx179_0,hx179_1,hx179_2,hx179_3,hl179_3,hi179_3⟩:=at_T43 (Kd.V_reads' HO_8.out).2.2 x10_1 p179 q179
              cases e179
              obtain ⟨ce179,hce179,hMe179,hcc179⟩:=Kd.V_get HO_8.out z43 x10_1 p179 (by first|exact q179|exact of_decide_eq_true (by first|(with_reducible assumption)|assumption)|(have e_:=(Kd.V_reads' HO_8.out).1;omega));obtain ⟨ua179_3,uc179_3,rfl,ul179_3,ge179_3⟩:=k43_openF hMe179;have hv179_3:=hcc179 3 _ rfl;rw [add_field _ _ 3 (by omega)] at hv179_3;replace hv179_3:=Option.some.inj (hv179_3.symm.trans hx179_3)
              injection hv179_3 with hva_ hvn_ hvc_
              rw [hva_] at ge179_3;rw [hvc_] at ul179_3;have HL179_3:=am (show Kd.V k23 23 _ w.heap.size _ _ ((rd_T43 l0 x10_1).f3) from Kd.V_mk ul179_3 ge179_3);clear hva_ hvn_ hvc_ ge179_3 ul179_3;clear hcc179 hce179;have HR179_3:=am hi179_3;have HC179_3:=am hl179_3;clear hi179_3 hl179_3;replace p179:=eq_true p179;replace q179:=eq_true q179
              go_wp2_with (first|((with_reducible refine gate_dst (N:=7) rfl ?_);refine box_event ?hg (N:=7) ?hd (cs:=#[.int .i64 0,.int .i64 0,.int .i64 0,.slice none 0 0]) (t:=43) ?hr ?_;(case hd => rfl);(case hg => rfl);(case hr => first|(go_simp;done)|(go_simp;rfl));intro gb180 hg w12 hbox hb;replace HO_8:=am (vE (by (with_reducible repeat (first|apply Kd.V_alloc|apply Kd.V_drewN|apply Kd.V_drew));exact HO_8.out) hg hb);replace HL179_3:=am (vE (by (with_reducible repeat (first|apply Kd.V_alloc|apply Kd.V_drewN|apply Kd.V_drew));exact HL179_3.out) hg hb);replace HR179_3:=am (Kd.C_below (by repeat (first|(with_reducible exact HR179_3.out)|(with_reducible refine Kd.C_alloc ?_ _)|(with_reducible refine Kd.C_drewN ?_ _)|(with_reducible refine Kd.C_drew ?_)|exact HR179_3.out)) hb);have BK180:=am (hbox);obtain ⟨h1_,GW180⟩:=sg (by repeat (first|(with_reducible first|exact HB.out|apply sa|apply sn|apply sd|refine sx ?_ GE178.out)|exact HB.out)) hb hg;replace HB:=h1_;clear h1_;have GE180:=GW180;have NB178_180:=nb (by exact BK178.out) hg;have NB180_178:=ng (by exact BK178.out) hg;replace BK178:=am (bw (by exact BK178.out) hb);clear hb hbox hg;have hnb13:=NB180_178.out;have hnc13:=NB178_180.out;obtain ⟨hcz14_0,hcz14_1,hcz14_2,hcz14_3⟩:=cq4 BK180.out;obtain ⟨hfz14_0,hfz14_1,hfz14_2,hfz14_3⟩:=fq4 BK180.out))
              go_roundg k1
              case measure => have:=HK1.out;omega
              case rel => exact ⟨(wrap64 (x10_1 + 1)),(x179000_1),(x179001_1),(x179002_1),(by first|rfl|(simp;done)|(simp [*];done)),H',⟨by have:=HK1.out;omega⟩,⟨by (with_reducible repeat (first|apply Kd.V_alloc|apply Kd.V_drewN|apply Kd.V_drew));exact Kd.V_mono (vf (vf (vf (vf (vp HO_8.out))))) (fun _ hk => ⟨hk.1.1.1,hk.1.1.2⟩)⟩,⟨by (with_reducible repeat (first|refine bn ?_ _|refine bd ?_|refine ba ?_ _|refine bf ?_ NB178_180.out _));exact BK178.out⟩,⟨by repeat (first|(with_reducible first|exact HB.out|apply sa|apply sn|apply sd|refine sy ?_ (by assumption))|exact HB.out)⟩⟩
          · rw [if_neg c6] at H
            exact absurd H (by simp)
        · rw [if_neg c5] at H
          exact absurd H (by simp)
      · rw [if_neg c4] at H
        have c4b0 : decide (x10_1 < (l0.length : Int)) = false:=decide_eq_false c4;clear c4;simp only [Option.some.injEq,Prod.mk.injEq] at H;obtain ⟨rfl,rfl,rfl,rfl,rfl⟩:=H;have hcz15_0 : wr.cell? ⟨gb178,0,none⟩ = some (.int .i64 x179000_1):=(bc BK178.out 0).trans rfl;have hcz15_1 : wr.cell? ⟨gb178,1,none⟩ = some (.int .i64 x179001_1):=(bc BK178.out 1).trans rfl;have hcz15_2 : wr.cell? ⟨gb178,2,none⟩ = some (.int .i64 x179002_1):=(bc BK178.out 2).trans rfl;have hcz15_3 : wr.cell? ⟨gb178,3,none⟩ = some (.slice none 0 0):=(bc BK178.out 3).trans rfl;have hfz15_0:=bz BK178.out 0;have hfz15_1:=bz BK178.out 1;have hfz15_2:=bz BK178.out 2;have hfz15_3:=bz BK178.out 3
        go_wp2
        refine bodyPost_ret (results_ct rfl _ _ gb178 43 #[.int .i64 0,.int .i64 0,.int .i64 0,.slice none 0 0] (0,0) _ rfl (bp (bp (bp (bp BK178.out 0 _ rfl) 1 _ rfl) 2 _ rfl) 3 _ rfl) Try.underlying43 rfl (by kernel_rfl)) rfl ?_
        exact ⟨_,by first|rfl|(simp [errW_none,errW_some] <;> rfl)|(simp [*,errW_none,errW_some] <;> rfl),(Kd.V_nil _ _ _ _ _),by repeat (first|(with_reducible first|exact HB.out|apply sa|apply sn|apply sd|refine sx ?_ GE178.out)|exact HB.out)⟩
theorem paint_Find.cn {a1 r1 r2 r3 : Int} {k : Nat} {A0 : Option Addr} {n0 c0 : Nat} {l0 : List (S43)} {r4 : List (S23)} {r5 : Bool} {w : World} (h : paint_Find.f k l0 a1 = some (r1, r2, r3, r4, r5)) (hr0 : Kd.C k43 w A0 n0 l0) (hc0 : n0 ≤ c0) :
    Calls Try.prog 17 #[.slice A0 n0 c0, .int .i64 a1] w fun e w' => ∃ (B3 : Option Addr) (d3 : Nat), e = .returned (.tuple #[.agg #[.int .i64 r1, .int .i64 r2, .int .i64 r3, .slice B3 r4.length d3], .bool r5]) ∧ Aside0 (Kd.C k23 w' B3 r4.length r4) ∧ Aside0 (r4.length ≤ d3) ∧ Below w.heap.size w w' := by
  obtain rfl := hr0.1
  refine (paint_Find.calls _ (fun k_ => k_ < w.heap.size) _ _ _ _ _ _ _ _ _ _ (Kd.V_mk hc0 (Kd.C_F k43_heap hr0)) h).mono ?_
  rintro e w' ⟨v3, rfl, hv3, hb⟩
  obtain ⟨B3, d3, rfl⟩ := Kd.V_slice hv3
  have q3 := Kd.V_reads' hv3
  exact ⟨B3, d3, rfl, ⟨q3.2.2⟩, ⟨q3.2.1⟩, hb⟩

/-! ### celluloidlaw20_refs: function 16 -/
def celluloidlaw20_refs.l0 : Nat → List (S43) → List (S48) → List (S43) → Int → Int → Option ((List (S48)) × Bool)
  | 0,_,_,_,_,_ => none
  | k + 1,x0,x4,x7,x8,x9 => if x9 < x8 then (if 0 ≤ x9 then (if x9 < (x7.length : Int) then (if (((rd_T43 x7 x9).f3).length : Int) > 500 then (some (([] : List (S48)),false)) else (if x4.length < 2932031007402 then (celluloidlaw20_refs.l0 k x0 (x4 ++ [(⟨(rd_T43 x7 x9).f0,(rd_T43 x7 x9).f1,(rd_T43 x7 x9).f2,(rd_T43 x7 x9).f3⟩ : S48)]) x7 x8 (wrap64 (x9 + 1))) else (none))) else (none)) else (none)) else (some (x4,decide ((x0.length : Int) ≤ 10)))
def celluloidlaw20_refs.f (k : Nat) (l0 : List (S43)) : Option ((List (S48)) × Bool):=celluloidlaw20_refs.l0 k l0 ([] : List (S48)) l0 (l0.length : Int) 0
theorem celluloidlaw20_refs.mono_l : ∀ k,(∀ y0 y1 y2 y3 y4,LeO (celluloidlaw20_refs.l0 k y0 y1 y2 y3 y4) (celluloidlaw20_refs.l0 (k + 1) y0 y1 y2 y3 y4))
  | 0 => fun _ _ _ _ _ r h => by simp [celluloidlaw20_refs.l0] at h
  | k + 1 => by
    have ih0:=celluloidlaw20_refs.mono_l k
    · intro y0 y1 y2 y3 y4
      unfold celluloidlaw20_refs.l0
      repeat' first
      | (with_reducible exact ih0 _ _ _ _ _)
      | (with_reducible exact LeO.refl _)
      | (with_reducible exact LeO.none _)
      | (with_reducible refine LeO.ite ?_ ?_)
      | (with_reducible refine LeO.bind ?_ (fun _ => ?_))
      | exact ih0 _ _ _ _ _
      | exact LeO.none _
      | refine LeO.ite ?_ ?_
      | refine LeO.bind ?_ (fun _ => ?_)
theorem celluloidlaw20_refs.mono : ∀ a0 k,LeO (celluloidlaw20_refs.f k a0) (celluloidlaw20_refs.f (k + 1) a0):=by
  intro a0 k
  have ih0:=celluloidlaw20_refs.mono_l k
  unfold celluloidlaw20_refs.f
  repeat' first
      | (with_reducible exact ih0 _ _ _ _ _)
      | (with_reducible exact LeO.refl _)
      | (with_reducible exact LeO.none _)
      | (with_reducible refine LeO.ite ?_ ?_)
      | (with_reducible refine LeO.bind ?_ (fun _ => ?_))
      | exact ih0 _ _ _ _ _
      | exact LeO.none _
      | refine LeO.ite ?_ ?_
      | refine LeO.bind ?_ (fun _ => ?_)
set_option maxHeartbeats 8000000 in
set_option maxRecDepth 100000 in
theorem celluloidlaw20_refs.calls (k : Nat) (P0_ : Nat → Prop) (A0 : Option Addr) (c0 : Nat) (l0 : List (S43)) (r1 : List (S48)) (r2 : Bool) (w : World) (hs0 : Kd.V k43 43 w w.heap.size (fun k_ => P0_ k_) (.slice A0 l0.length c0) l0) (h : celluloidlaw20_refs.f k l0 = some (r1,r2)) :
    Calls Try.prog 16 #[.slice A0 l0.length c0] w fun e w' => ∃ v0_ : Value,e = .returned (.tuple #[v0_,.bool r2]) ∧ Kd.N k48 48 w' w.heap.size (fun k_ => (P0_ k_ ∨ w.heap.size ≤ k_)) v0_ r1 ∧ Below w.heap.size w w':=by
  have hu43:=Try.underlying43;have HO0:=am (show Kd.V k43 43 w w.heap.size (fun k_ => (P0_ k_ ∨ w.heap.size ≤ k_)) (.slice A0 l0.length c0) l0 from Kd.V_mono hs0 (fun k_ hk => .inl hk));have HB:=am (Below.refl w.heap.size w);have H : (celluloidlaw20_refs.l0 k l0 ([] : List (S48)) l0 (l0.length : Int) 0) = some (r1,r2):=h;clear h;have H':=am H;clear H
  go_enter Try.func16,Try.ntmps16
  go_wp2
  go_loopg [4,9] k (fun kq v4 v9 w' => ∃ (x4_1 : List (S48)) (x9_1 : Int),v9 = .int .i64 x9_1 ∧ Aside0 (celluloidlaw20_refs.l0 kq l0 x4_1 l0 (l0.length : Int) x9_1 = some (r1,r2)) ∧ Aside0 (kq ≤ k) ∧ Aside0 (Kd.V k43 43 w' w.heap.size (fun k_ => (P0_ k_ ∨ w.heap.size ≤ k_) ∧ some k_ ≠ (v4 : Value).ownBlock) (.slice A0 l0.length c0) l0) ∧ Aside0 (Kd.N k48 48 w' w.heap.size (fun k_ => (P0_ k_ ∨ w.heap.size ≤ k_)) v4 x4_1) ∧ Aside0 (Kd.V k43 43 w' w.heap.size (fun k_ => (P0_ k_ ∨ w.heap.size ≤ k_) ∧ some k_ ≠ (v4 : Value).ownBlock) (.slice A0 l0.length c0) l0) ∧ Aside0 (Below w.heap.size w w'))
  case atStart => exact ⟨(([] : List (S48))),(0),(by first|rfl|(simp;done)|(simp [*];done)),H',⟨Nat.le_refl _⟩,⟨by (with_reducible repeat (first|apply Kd.V_alloc|apply Kd.V_drewN|apply Kd.V_drew));exact Kd.V_mono HO0.out (fun _ hk => ⟨hk,(by simp [Value.ownBlock])⟩)⟩,⟨by first|exact Kd.S_nil _ _ _ _ _|exact Kd.N_nil _ _ _ _ _|exact Kd.V_nil _ _ _ _ _|exact Kd.Q_nil _ _ _ _ _|exact Kd.R_nil _ _ _ _ _⟩,⟨by (with_reducible repeat (first|apply Kd.V_alloc|apply Kd.V_drewN|apply Kd.V_drew));exact Kd.V_mono HO0.out (fun _ hk => ⟨hk,(by simp [Value.ownBlock])⟩)⟩,⟨by repeat (first|(with_reducible first|exact HB.out|apply sa|apply sn|apply sd)|exact HB.out)⟩⟩
  case round =>
    clear H'
    try clear c1
    obtain ⟨x4_1,x9_1,rfl,HA,HK1,HO_0,HO_4,HO_7,HB⟩:=hrel
    cases gk with
    | zero => exact absurd HA.out (by simp [celluloidlaw20_refs.l0])
    | succ k1 =>
      have H:=HA.out;clear HA;simp only [celluloidlaw20_refs.l0] at H
      by_cases c2 : x9_1 < (l0.length : Int)
      · rw [if_pos c2] at H
        have c2b0 : decide (x9_1 < (l0.length : Int)) = true:=decide_eq_true c2;clear c2
        by_cases c3 : 0 ≤ x9_1
        · rw [if_pos c3] at H
          have c3b0 : decide (0 ≤ x9_1) = true:=decide_eq_true c3;clear c3
          by_cases c4 : x9_1 < (l0.length : Int)
          · rw [if_pos c4] at H
            have c4b0 : decide (x9_1 < (l0.length : Int)) = true:=decide_eq_true c4;clear c4
            by_cases c5 : (((rd_T43 l0 x9_1).f3).length : Int) > 500
            · rw [if_pos c5] at H
              have c5b0 : decide (500 < (((rd_T43 l0 x9_1).f3).length : Int)) = true:=decide_eq_true c5;have c5b1 : decide (500 < ((rd_T43 l0 x9_1).f3).length) = true:=decide_eq_true (by omega);clear c5;simp only [Option.some.injEq,Prod.mk.injEq] at H;obtain ⟨rfl,rfl⟩:=H;have p173 : 0 ≤ (x9_1 : Int):=of_decide_eq_true (by first|(with_reducible assumption)|assumption);have q173 : x9_1 < (l0.length : Int):=of_decide_eq_true (by first|(with_reducible assumption)|assumption);obtain ⟨ad173,A173_3,c173_3,e173,hx173_0,hx173_1,hx173_2,hx173_3,hl173_3,hi173_3⟩:=at_T43 (Kd.V_reads' HO_7.out).2.2 x9_1 p173 q173
              cases e173
              obtain ⟨ce173,hce173,hMe173,hcc173⟩:=Kd.V_get HO_7.out z43 x9_1 p173 (by first|exact q173|exact of_decide_eq_true (by first|(with_reducible assumption)|assumption)|(have e_:=(Kd.V_reads' HO_7.out).1;omega));obtain ⟨ua173_3,uc173_3,rfl,ul173_3,ge173_3⟩:=k43_openF hMe173;have hv173_3:=hcc173 3 _ rfl;rw [add_field _ _ 3 (by omega)] at hv173_3;replace hv173_3:=Option.some.inj (hv173_3.symm.trans hx173_3)
              injection hv173_3 with hva_ hvn_ hvc_
              rw [hva_] at ge173_3;rw [hvc_] at ul173_3;have HL173_3:=am (show Kd.V k23 23 _ w.heap.size _ _ ((rd_T43 l0 x9_1).f3) from Kd.V_mk ul173_3 ge173_3);clear hva_ hvn_ hvc_ ge173_3 ul173_3;clear hcc173 hce173;have HR173_3:=am hi173_3;have HC173_3:=am hl173_3;clear hi173_3 hl173_3;replace p173:=eq_true p173;replace q173:=eq_true q173
              go_wp2_with (first|((with_reducible refine gate_dst (N:=6) rfl ?_);refine box_event ?hg (N:=6) ?hd (cs:=#[.int .i64 0,.int .i64 0,.int .i64 0,.slice none 0 0]) (t:=43) ?hr ?_;(case hd => rfl);(case hg => rfl);(case hr => first|(go_simp;done)|(go_simp;rfl));intro gb174 hg w6 hbox hb;replace HO_0:=am (vE (by (with_reducible repeat (first|apply Kd.V_alloc|apply Kd.V_drewN|apply Kd.V_drew));exact HO_0.out) hg hb);replace HO_4:=am (nE (by (with_reducible repeat (first|apply Kd.N_alloc|apply Kd.N_drewN|apply Kd.N_drew));exact HO_4.out) hg hb);replace HO_7:=am (vE (by (with_reducible repeat (first|apply Kd.V_alloc|apply Kd.V_drewN|apply Kd.V_drew));exact HO_7.out) hg hb);replace HL173_3:=am (vE (by (with_reducible repeat (first|apply Kd.V_alloc|apply Kd.V_drewN|apply Kd.V_drew));exact HL173_3.out) hg hb);replace HR173_3:=am (Kd.C_below (by repeat (first|(with_reducible exact HR173_3.out)|(with_reducible refine Kd.C_alloc ?_ _)|(with_reducible refine Kd.C_drewN ?_ _)|(with_reducible refine Kd.C_drew ?_)|exact HR173_3.out)) hb);have BK174:=am (hbox);have GW174:=am ((by rw [hg];exact (sz (by repeat (first|(with_reducible first|exact HB.out|apply sa|apply sn|apply sd)|exact HB.out))) : w.heap.size ≤ gb174));have GE174:=am ((by rw [hg];exact (sz (by repeat (first|(with_reducible first|exact HB.out|apply sa|apply sn|apply sd)|exact HB.out))) : w.heap.size ≤ gb174));replace HB:=am (ss (by repeat (first|(with_reducible first|exact HB.out|apply sa|apply sn|apply sd)|exact HB.out)) hb);clear hb hbox hg;obtain ⟨hcz7_0,hcz7_1,hcz7_2,hcz7_3⟩:=cq4 BK174.out;obtain ⟨hfz7_0,hfz7_1,hfz7_2,hfz7_3⟩:=fq4 BK174.out))
              go_ret2
              exact ⟨_,by first|rfl|(simp [errW_none,errW_some] <;> rfl)|(simp [*,errW_none,errW_some] <;> rfl),by first|exact Kd.S_nil _ _ _ _ _|exact Kd.N_nil _ _ _ _ _|exact Kd.V_nil _ _ _ _ _|exact Kd.Q_nil _ _ _ _ _|exact Kd.R_nil _ _ _ _ _,by repeat (first|(with_reducible first|exact HB.out|apply sa|apply sn|apply sd|refine sx ?_ GE174.out)|exact HB.out)⟩
            · rw [if_neg c5] at H
              have c5b0 : decide (500 < (((rd_T43 l0 x9_1).f3).length : Int)) = false:=decide_eq_false c5;have c5b1 : decide (500 < ((rd_T43 l0 x9_1).f3).length) = false:=decide_eq_false (by omega);clear c5
              by_cases c8 : x4_1.length < 2932031007402
              · rw [if_pos c8] at H
                have LMc8:=am c8;clear c8;obtain ⟨y175,hy175⟩ : ∃ y_ : List (S48),y_ = (x4_1 ++ [(⟨(rd_T43 l0 x9_1).f0,(rd_T43 l0 x9_1).f1,(rd_T43 l0 x9_1).f2,(rd_T43 l0 x9_1).f3⟩ : S48)]):=⟨_,rfl⟩
                replace H : (celluloidlaw20_refs.l0 k1 l0 y175 l0 (l0.length : Int) (wrap64 (x9_1 + 1))) = some (r1,r2):=by first|(rw [hy175];with_reducible exact H)|(have H2_:=(Option.bind_some _ _).symm.trans H;rw [hy175];with_reducible exact H2_)|(have H2_:=(Option.bind_some _ _).symm.trans H;with_reducible exact H2_)|with_reducible exact H|(rw [hy175];exact H)|exact H
                have Ny175:=am hy175;clear hy175;have H':=am H;clear H;have p173 : 0 ≤ (x9_1 : Int):=of_decide_eq_true (by first|(with_reducible assumption)|assumption);have q173 : x9_1 < (l0.length : Int):=of_decide_eq_true (by first|(with_reducible assumption)|assumption);obtain ⟨ad173,A173_3,c173_3,e173,hx173_0,hx173_1,hx173_2,hx173_3,hl173_3,hi173_3⟩:=at_T43 (Kd.V_reads' HO_7.out).2.2 x9_1 p173 q173
                cases e173
                obtain ⟨ce173,hce173,hMe173,hcc173⟩:=Kd.V_get HO_7.out z43 x9_1 p173 (by first|exact q173|exact of_decide_eq_true (by first|(with_reducible assumption)|assumption)|(have e_:=(Kd.V_reads' HO_7.out).1;omega));obtain ⟨ua173_3,uc173_3,rfl,ul173_3,ge173_3⟩:=k43_openF hMe173;have hv173_3:=hcc173 3 _ rfl;rw [add_field _ _ 3 (by omega)] at hv173_3;replace hv173_3:=Option.some.inj (hv173_3.symm.trans hx173_3)
                injection hv173_3 with hva_ hvn_ hvc_
                rw [hva_] at ge173_3;rw [hvc_] at ul173_3;have HL173_3:=am (show Kd.V k23 23 _ w.heap.size _ _ ((rd_T43 l0 x9_1).f3) from Kd.V_mk ul173_3 ge173_3);clear hva_ hvn_ hvc_ ge173_3 ul173_3;clear hcc173 hce173;have HR173_3:=am hi173_3;have HC173_3:=am hl173_3;clear hi173_3 hl173_3;replace p173:=eq_true p173;replace q173:=eq_true q173
                go_wp2_with (first|((with_reducible refine gate_dst (N:=6) rfl ?_);refine box_event ?hg (N:=6) ?hd (cs:=#[.int .i64 0,.int .i64 0,.int .i64 0,.slice none 0 0]) (t:=43) ?hr ?_;(case hd => rfl);(case hg => rfl);(case hr => first|(go_simp;done)|(go_simp;rfl));intro gb174 hg w9 hbox hb;replace HO_0:=am (vE (by (with_reducible repeat (first|apply Kd.V_alloc|apply Kd.V_drewN|apply Kd.V_drew));exact HO_0.out) hg hb);replace HO_4:=am (nE (by (with_reducible repeat (first|apply Kd.N_alloc|apply Kd.N_drewN|apply Kd.N_drew));exact HO_4.out) hg hb);replace HO_7:=am (vE (by (with_reducible repeat (first|apply Kd.V_alloc|apply Kd.V_drewN|apply Kd.V_drew));exact HO_7.out) hg hb);replace HL173_3:=am (vE (by (with_reducible repeat (first|apply Kd.V_alloc|apply Kd.V_drewN|apply Kd.V_drew));exact HL173_3.out) hg hb);replace HR173_3:=am (Kd.C_below (by repeat (first|(with_reducible exact HR173_3.out)|(with_reducible refine Kd.C_alloc ?_ _)|(with_reducible refine Kd.C_drewN ?_ _)|(with_reducible refine Kd.C_drew ?_)|exact HR173_3.out)) hb);have BK174:=am (hbox);have GW174:=am ((by rw [hg];exact (sz (by repeat (first|(with_reducible first|exact HB.out|apply sa|apply sn|apply sd)|exact HB.out))) : w.heap.size ≤ gb174));have GE174:=am ((by rw [hg];exact (sz (by repeat (first|(with_reducible first|exact HB.out|apply sa|apply sn|apply sd)|exact HB.out))) : w.heap.size ≤ gb174));replace HB:=am (ss (by repeat (first|(with_reducible first|exact HB.out|apply sa|apply sn|apply sd)|exact HB.out)) hb);clear hb hbox hg;obtain ⟨hcz10_0,hcz10_1,hcz10_2,hcz10_3⟩:=cq4 BK174.out;obtain ⟨hfz10_0,hfz10_1,hfz10_2,hfz10_3⟩:=fq4 BK174.out)|((with_reducible refine gate_store (t:=43) (p:=6) rfl ?_);refine store_event (t:=43) (p:=6) (v:=?vo_w11) (w1:=((((w9.setCell ⟨gb174,0,none⟩ (.int .i64 ((rd_T43 l0 x9_1).f0))).setCell ⟨gb174,1,none⟩ (.int .i64 ((rd_T43 l0 x9_1).f1))).setCell ⟨gb174,2,none⟩ (.int .i64 ((rd_T43 l0 x9_1).f2))).setCell ⟨gb174,3,none⟩ (.slice A173_3 ((rd_T43 l0 x9_1).f3).length c173_3))) ?hg ?ho ?hn ?hr ?_;(case ho => rfl);(case hg => rfl);(case hn => rfl);(case hr => first|(go_simp;done)|(go_simp;rfl));intro w11 hw;have n0_ : Aside0 (Kd.V k43 43 w11 w.heap.size (fun k_ => (P0_ k_ ∨ w.heap.size ≤ k_) ∧ some k_ ≠ (u4 : Value).ownBlock ∧ k_ ≠ gb174) (.slice (some ad173) l0.length c0) l0):=⟨(by rw [hw];exact (by (with_reducible repeat (first|apply Kd.V_alloc|apply Kd.V_drewN|apply Kd.V_drew));exact Kd.V_mono (vf (vf (vf (vf (vp HO_0.out))))) (fun _ hk => ⟨hk.1.1.1,⟨hk.1.1.2,hk.1.2⟩⟩)))⟩;have n1_ : Aside0 (Kd.N k48 48 w11 w.heap.size (fun k_ => (P0_ k_ ∨ w.heap.size ≤ k_) ∧ k_ ≠ gb174) u4 x4_1):=⟨(by rw [hw];exact (by (with_reducible repeat (first|apply Kd.N_alloc|apply Kd.N_drewN|apply Kd.N_drew));exact Kd.N_mono (nf (nf (nf (nf (np HO_4.out))))) (fun _ hk => ⟨hk.1.1,hk.1.2⟩)))⟩;have n2_ : Aside0 (Kd.V k43 43 w11 w.heap.size (fun k_ => (P0_ k_ ∨ w.heap.size ≤ k_) ∧ some k_ ≠ (u4 : Value).ownBlock ∧ k_ ≠ gb174) (.slice (some ad173) l0.length c0) l0):=⟨(by rw [hw];exact (by (with_reducible repeat (first|apply Kd.V_alloc|apply Kd.V_drewN|apply Kd.V_drew));exact Kd.V_mono (vf (vf (vf (vf (vp HO_7.out))))) (fun _ hk => ⟨hk.1.1.1,⟨hk.1.1.2,hk.1.2⟩⟩)))⟩;have n3_ : Aside0 (Kd.V k23 23 w11 w.heap.size (fun k_ => (P0_ k_ ∨ w.heap.size ≤ k_) ∧ some k_ ≠ (u4 : Value).ownBlock ∧ k_ ≠ gb174) (.slice A173_3 ((rd_T43 l0 x9_1).f3).length c173_3) ((rd_T43 l0 x9_1).f3)):=⟨(by rw [hw];exact (by (with_reducible repeat (first|apply Kd.V_alloc|apply Kd.V_drewN|apply Kd.V_drew));exact Kd.V_mono (vf (vf (vf (vf (vp HL173_3.out))))) (fun _ hk => ⟨hk.1.1.1,⟨hk.1.1.2,hk.1.2⟩⟩)))⟩;have n4_ : Aside0 (w11.heap[gb174]? = some (.cells #[.int .i64 ((rd_T43 l0 x9_1).f0),.int .i64 ((rd_T43 l0 x9_1).f1),.int .i64 ((rd_T43 l0 x9_1).f2),.slice A173_3 ((rd_T43 l0 x9_1).f3).length c173_3] 43 (0,0))):=⟨(by rw [hw];exact (bp (bp (bp (bp BK174.out 0 _ rfl) 1 _ rfl) 2 _ rfl) 3 _ rfl))⟩;have n5_ : Aside0 (Below w.heap.size w w11):=⟨(by rw [hw];exact (by repeat (first|(with_reducible first|exact HB.out|apply sa|apply sn|apply sd|refine sx ?_ GE174.out)|exact HB.out)))⟩;clear hw;clear HO_0;clear HO_4;clear HO_7;clear HL173_3;clear BK174;clear HB;have HO_0:=n0_;have HO_4:=n1_;have HO_7:=n2_;have HL173_3:=n3_;have BK174:=n4_;have HB:=n5_;clear n0_ n1_ n2_ n3_ n4_ n5_;obtain ⟨hcz12_0,hcz12_1,hcz12_2,hcz12_3⟩:=cq4 BK174.out;obtain ⟨hfz12_0,hfz12_1,hfz12_2,hfz12_3⟩:=fq4 BK174.out)|((with_reducible refine gate_builtin (b:=.append) (xs:=#[.tmp 17,.tmp 19]) rfl ?_);at_builtin;refine Kd.N_append k48 (w0:=w) w.heap.size rfl (.tmp 17) (.tmp 19) 38 48 (.agg #[(.int .i64 0),(.int .i64 0),(.int .i64 0),(.slice none 0 0)]) 48 rfl Try.underlying38 info48 rfl (by decide) (by omega) u4 x4_1 (⟨(rd_T43 l0 x9_1).f0,(rd_T43 l0 x9_1).f1,(rd_T43 l0 x9_1).f2,(rd_T43 l0 x9_1).f3⟩ : S48) [.int .i64 ((rd_T43 l0 x9_1).f0),.int .i64 ((rd_T43 l0 x9_1).f1),.int .i64 ((rd_T43 l0 x9_1).f2),.slice A173_3 ((rd_T43 l0 x9_1).f3).length c173_3] (fun k_ => (P0_ k_ ∨ w.heap.size ≤ k_) ∧ k_ ≠ gb174) (fun k_ => ((fun k_ => (P0_ k_ ∨ w.heap.size ≤ k_) ∧ k_ ≠ gb174)) k_ ∧ some k_ ≠ (u4 : Value).ownBlock) rfl rfl ?aP (fun _ hk => hk) ?aF ?aO ?aB ?aS ?aL ?_;(case aP => exact (k48_mkF _ _ (⟨(rd_T43 l0 x9_1).f0,(rd_T43 l0 x9_1).f1,(rd_T43 l0 x9_1).f2,(rd_T43 l0 x9_1).f3⟩ : S48) (Kd.V_reads' (Kd.V_mono (ok':=(fun k_ => ((fun k_ => (P0_ k_ ∨ w.heap.size ≤ k_) ∧ k_ ≠ gb174)) k_ ∧ some k_ ≠ (u4 : Value).ownBlock)) (HL173_3.out) (fun k_ hk => ⟨⟨hk.1,hk.2.2⟩,hk.2.1⟩))).2.1 (Kd.V_F (Kd.V_mono (ok':=(fun k_ => ((fun k_ => (P0_ k_ ∨ w.heap.size ≤ k_) ∧ k_ ≠ gb174)) k_ ∧ some k_ ≠ (u4 : Value).ownBlock)) (HL173_3.out) (fun k_ hk => ⟨⟨hk.1,hk.2.2⟩,hk.2.1⟩)))));(case aB => exact (by repeat (first|(with_reducible first|exact HB.out|apply sa|apply sn|apply sd|refine sx ?_ GE174.out)|exact HB.out)));(case aF => exact (fun k_ hk => ⟨(.inr (Nat.le_trans (sz (by repeat (first|(with_reducible first|exact HB.out|apply sa|apply sn|apply sd|refine sx ?_ GE174.out)|exact HB.out))) hk)),Kd.freshB (g:=gb174) (o:=.cells #[.int .i64 ((rd_T43 l0 x9_1).f0),.int .i64 ((rd_T43 l0 x9_1).f1),.int .i64 ((rd_T43 l0 x9_1).f2),.slice A173_3 ((rd_T43 l0 x9_1).f3).length c173_3] 43 (0,0)) (by exact BK174.out) k_ hk⟩));(case aO => exact (by (with_reducible repeat (first|apply Kd.N_alloc|apply Kd.N_drewN|apply Kd.N_drew));exact HO_4.out));(case aS => exact (sz (by repeat (first|(with_reducible first|exact HB.out|apply sa|apply sn|apply sd|refine sx ?_ GE174.out)|exact HB.out))));(case aL => have:=LMc8.out;omega);intro v176 w13 ho hb hg hat;rw [← Ny175.out] at ho;have n0_:=am (Kd.V_afterv (ok:=(fun k_ => (P0_ k_ ∨ w.heap.size ≤ k_) ∧ k_ ≠ gb174)) (by (with_reducible repeat (first|apply Kd.V_alloc|apply Kd.V_drewN|apply Kd.V_drew));exact Kd.V_mono HO_0.out (fun _ hk => ⟨⟨hk.1,hk.2.2⟩,hk.2.1⟩)) hg hat);have n1_:=am (Kd.V_afterv (ok:=(fun k_ => (P0_ k_ ∨ w.heap.size ≤ k_) ∧ k_ ≠ gb174)) (by (with_reducible repeat (first|apply Kd.V_alloc|apply Kd.V_drewN|apply Kd.V_drew));exact Kd.V_mono HO_7.out (fun _ hk => ⟨⟨hk.1,hk.2.2⟩,hk.2.1⟩)) hg hat);have n2_:=am (Kd.V_afterv (ok:=(fun k_ => (P0_ k_ ∨ w.heap.size ≤ k_) ∧ k_ ≠ gb174)) (by (with_reducible repeat (first|apply Kd.V_alloc|apply Kd.V_drewN|apply Kd.V_drew));exact Kd.V_mono HL173_3.out (fun _ hk => ⟨⟨hk.1,hk.2.2⟩,hk.2.1⟩)) hg hat);have n3_:=am (blk_grown (g:=gb174) (o:=.cells #[.int .i64 ((rd_T43 l0 x9_1).f0),.int .i64 ((rd_T43 l0 x9_1).f1),.int .i64 ((rd_T43 l0 x9_1).f2),.slice A173_3 ((rd_T43 l0 x9_1).f3).length c173_3] 43 (0,0)) (by exact BK174.out) hg (Kd.N_ne HO_4.out BK174.out (by decide)));have n4_:=am (hb);have n5_:=am (ho);clear HO_0;clear HO_7;clear HL173_3;clear BK174;clear HB;clear HO_4;have HO_0:=n0_;have HO_7:=n1_;have HL173_3:=n2_;have BK174:=n3_;have HB:=n4_;have HO177:=n5_;clear n0_ n1_ n2_ n3_ n4_ n5_;clear ho hb hg hat))
                go_roundg k1
                case measure => have:=HK1.out;omega
                case rel => exact ⟨(y175),(wrap64 (x9_1 + 1)),(by first|rfl|(simp;done)|(simp [*];done)),H',⟨by have:=HK1.out;omega⟩,⟨by (with_reducible repeat (first|apply Kd.V_alloc|apply Kd.V_drewN|apply Kd.V_drew));exact Kd.V_mono HO_0.out (fun _ hk => ⟨hk.1.1,hk.2⟩)⟩,⟨by (with_reducible repeat (first|apply Kd.N_alloc|apply Kd.N_drewN|apply Kd.N_drew));exact Kd.N_mono HO177.out (fun _ hk => hk.1)⟩,⟨by (with_reducible repeat (first|apply Kd.V_alloc|apply Kd.V_drewN|apply Kd.V_drew));exact Kd.V_mono HO_7.out (fun _ hk => ⟨hk.1.1,hk.2⟩)⟩,⟨by repeat (first|(with_reducible first|exact HB.out|apply sa|apply sn|apply sd|refine sx ?_ GE174.out)|exact HB.out)⟩⟩
              · rw [if_neg c8] at H
                exact absurd H (by simp)
          · rw [if_neg c4] at H
            exact absurd H (by simp)
        · rw [if_neg c3] at H
          exact absurd H (by simp)
      · rw [if_neg c2] at H
        have c2b0 : decide (x9_1 < (l0.length : Int)) = false:=decide_eq_false c2;clear c2;simp only [Option.some.injEq,Prod.mk.injEq] at H;obtain ⟨rfl,rfl⟩:=H
        go_wp2
        go_ret2
        exact ⟨_,by first|rfl|(simp [errW_none,errW_some] <;> rfl)|(simp [*,errW_none,errW_some] <;> rfl),by (with_reducible repeat (first|apply Kd.N_alloc|apply Kd.N_drewN|apply Kd.N_drew));exact HO_4.out,by repeat (first|(with_reducible first|exact HB.out|apply sa|apply sn|apply sd)|exact HB.out)⟩
theorem celluloidlaw20_refs.cn {k : Nat} {A0 : Option Addr} {n0 c0 : Nat} {l0 : List (S43)} {r1 : List (S48)} {r2 : Bool} {w : World} (h : celluloidlaw20_refs.f k l0 = some (r1, r2)) (hr0 : Kd.C k43 w A0 n0 l0) (hc0 : n0 ≤ c0) :
    Calls Try.prog 16 #[.slice A0 n0 c0] w fun e w' => ∃ (B0 : Option Addr) (d0 : Nat), e = .returned (.tuple #[.slice B0 r1.length d0, .bool r2]) ∧ Aside0 (Kd.C k48 w' B0 r1.length r1) ∧ Aside0 (r1.length ≤ d0) ∧ Below w.heap.size w w' := by
  obtain rfl := hr0.1
  refine (celluloidlaw20_refs.calls _ (fun k_ => k_ < w.heap.size) _ _ _ _ _ _ (Kd.V_mk hc0 (Kd.C_F k43_heap hr0)) h).mono ?_
  rintro e w' ⟨v0, rfl, hv0, hb⟩
  obtain ⟨B0, d0, rfl⟩ := Kd.N_slice hv0
  have q0 := Kd.V_reads' (Kd.N_V (base' := 0) hv0)
  exact ⟨B0, d0, rfl, ⟨q0.2.2⟩, ⟨q0.2.1⟩, hb⟩

end Go.Proofs.Ytmdfcinjmlagcaa.P
