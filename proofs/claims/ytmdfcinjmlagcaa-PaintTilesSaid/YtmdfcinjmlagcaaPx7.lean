/- Printed by printx.py (wip/tool) out of the translation: plain functions that tell what the program answers,and the proofs that the program comes to these answers,for all arguments of their kinds. Lean checks it. -/
import Derived.Test.YtmdfcinjmlagcaaShort
import Derived.Test.YtmdfcinjmlagcaaPx0
namespace Go.Proofs.Ytmdfcinjmlagcaa.P
open Go.RowKit Go.Proofs.YtmdfcinjmlagcaaW.PrintWords Go.Proofs.YtmdfcinjmlagcaaW.PrintLast Go.Proofs.YtmdfcinjmlagcaaW.PrintMore
attribute [local go_sem] max2_int min2_int max_two min_two max_three min_three max_four min_four max_five min_five max_six min_six   -- for this text's walks alone
set_option linter.unusedVariables false
set_option linter.unusedSimpArgs false

/-! ### paint_Find: function 17 -/
def paint_Find.l0 : Nat → Int → List (S43) → Int → Int → Option (Int × Int × Int × (List (S23)) × Bool)
  | 0,_,_,_,_ => none
  | k + 1,x1,x8,x9,x10 => if x10 < x9 then (if 0 ≤ x10 then (if x10 < (x8.length : Int) then (if ((rd_T43 x8 x10).f0) = x1 then (some ((rd_T43 x8 x10).f0,(rd_T43 x8 x10).f1,(rd_T43 x8 x10).f2,(rd_T43 x8 x10).f3,true)) else (paint_Find.l0 k x1 x8 x9 (wrap64 (x10 + 1)))) else (none)) else (none)) else (some (0,0,0,([] : List (S23)),false))
def paint_Find.f (k : Nat) (l0 : List (S43)) (a1 : Int) : Option (Int × Int × Int × (List (S23)) × Bool):=paint_Find.l0 k a1 l0 (l0.length : Int) 0
theorem paint_Find.mono_l : ∀ k,(∀ y0 y1 y2 y3,LeO (paint_Find.l0 k y0 y1 y2 y3) (paint_Find.l0 (k + 1) y0 y1 y2 y3))
  | 0 => fun _ _ _ _ r h => by simp [paint_Find.l0] at h
  | k + 1 => by
    have ih0:=paint_Find.mono_l k
    · intro y0 y1 y2 y3
      unfold paint_Find.l0
      repeat' first
      | (with_reducible exact ih0 _ _ _ _)
      | (with_reducible exact LeO.refl _)
      | (with_reducible exact LeO.none _)
      | (with_reducible refine LeO.ite ?_ ?_)
      | (with_reducible refine LeO.bind ?_ (fun _ => ?_))
      | exact ih0 _ _ _ _
      | exact LeO.none _
      | refine LeO.ite ?_ ?_
      | refine LeO.bind ?_ (fun _ => ?_)
theorem paint_Find.mono : ∀ a0 a1 k,LeO (paint_Find.f k a0 a1) (paint_Find.f (k + 1) a0 a1):=by
  intro a0 a1 k
  have ih0:=paint_Find.mono_l k
  unfold paint_Find.f
  repeat' first
      | (with_reducible exact ih0 _ _ _ _)
      | (with_reducible exact LeO.refl _)
      | (with_reducible exact LeO.none _)
      | (with_reducible refine LeO.ite ?_ ?_)
      | (with_reducible refine LeO.bind ?_ (fun _ => ?_))
      | exact ih0 _ _ _ _
      | exact LeO.none _
      | refine LeO.ite ?_ ?_
      | refine LeO.bind ?_ (fun _ => ?_)
set_option maxHeartbeats 8000000 in
set_option maxRecDepth 100000 in
theorem paint_Find.calls (k : Nat) (P0_ : Nat → Prop) (A0 : Option Addr) (c0 : Nat) (l0 : List (S43)) (a1 : Int) (r1 : Int) (r2 : Int) (r3 : Int) (r4 : List (S23)) (r5 : Bool) (w : World) (hs0 : Kd.V k43 43 w w.heap.size (fun k_ => P0_ k_) (.slice A0 l0.length c0) l0) (h : paint_Find.f k l0 a1 = some (r1,r2,r3,r4,r5)) :
    Calls Try.prog 17 #[.slice A0 l0.length c0,.int .i64 a1] w fun e w' => ∃ v3_ : Value,e = .returned (.tuple #[.agg #[.int .i64 r1,.int .i64 r2,.int .i64 r3,v3_],.bool r5]) ∧ Kd.V k23 23 w' w.heap.size (fun k_ => (P0_ k_ ∨ w.heap.size ≤ k_)) v3_ r4 ∧ Below w.heap.size w w':=by
  have hu43:=Try.underlying43;have HO0:=am (show Kd.V k43 43 w w.heap.size (fun k_ => (P0_ k_ ∨ w.heap.size ≤ k_)) (.slice A0 l0.length c0) l0 from Kd.V_mono hs0 (fun k_ hk => .inl hk));have HB:=am (Below.refl w.heap.size w);have H : (paint_Find.l0 k a1 l0 (l0.length : Int) 0) = some (r1,r2,r3,r4,r5):=h;clear h;have H':=am H;clear H
  go_enter Try.func17,Try.ntmps17
  go_wp2_with (first|((with_reducible refine gate_dst (N:=4) rfl ?_);refine box_event ?hg (N:=4) ?hd (cs:=#[.int .i64 0,.int .i64 0,.int .i64 0,.slice none 0 0]) (t:=43) ?hr ?_;(case hd => rfl);(case hg => rfl);(case hr => first|(go_simp;done)|(go_simp;rfl));intro gb178 hg w3 hbox hb;replace HO0:=am (vE (by (with_reducible repeat (first|apply Kd.V_alloc|apply Kd.V_drewN|apply Kd.V_drew));exact HO0.out) hg hb);have BK178:=am (hbox);have GW178:=am ((by rw [hg];exact (sz (by repeat (first|(with_reducible first|exact HB.out|apply sa|apply sn|apply sd)|exact HB.out))) : w.heap.size ≤ gb178));have GE178:=am ((by rw [hg];exact (sz (by repeat (first|(with_reducible first|exact HB.out|apply sa|apply sn|apply sd)|exact HB.out))) : w.heap.size ≤ gb178));replace HB:=am (ss (by repeat (first|(with_reducible first|exact HB.out|apply sa|apply sn|apply sd)|exact HB.out)) hb);clear hb hbox hg))
  go_loopg [10] k (fun kq v10 w' => ∃ (x10_1 : Int) (x179000_1 : Int) (x179001_1 : Int) (x179002_1 : Int),v10 = .int .i64 x10_1 ∧ Aside0 (paint_Find.l0 kq a1 l0 (l0.length : Int) x10_1 = some (r1,r2,r3,r4,r5)) ∧ Aside0 (kq ≤ k) ∧ Aside0 (Kd.V k43 43 w' w.heap.size (fun k_ => (P0_ k_ ∨ w.heap.size ≤ k_) ∧ k_ ≠ gb178) (.slice A0 l0.length c0) l0) ∧ Aside0 (w'.heap[gb178]? = some (.cells #[.int .i64 x179000_1,.int .i64 x179001_1,.int .i64 x179002_1,(.slice none 0 0)] 43 (0,0))) ∧ Aside0 (Below w.heap.size w w'))
  case atStart => exact ⟨(0),(0),(0),(0),(by first|rfl|(simp;done)|(simp [*];done)),H',⟨Nat.le_refl _⟩,⟨by (with_reducible repeat (first|apply Kd.V_alloc|apply Kd.V_drewN|apply Kd.V_drew));exact HO0.out⟩,⟨by exact BK178.out⟩,⟨by repeat (first|(with_reducible first|exact HB.out|apply sa|apply sn|apply sd|refine sx ?_ GE178.out)|exact HB.out)⟩⟩
  case round =>
    clear H'
    (try clear c1);(try clear p2)
    obtain ⟨x10_1,x179000_1,x179001_1,x179002_1,rfl,HA,HK1,HO_8,BK178,HB⟩:=hrel
    cases gk with
    | zero => exact absurd HA.out (by simp [paint_Find.l0])
    | succ k1 =>
      have H:=HA.out;clear HA;simp only [paint_Find.l0] at H
      by_cases c4 : x10_1 < (l0.length : Int)
      · rw [if_pos c4] at H
        have c4b0 : decide (x10_1 < (l0.length : Int)) = true:=decide_eq_true c4;clear c4
        by_cases c5 : 0 ≤ x10_1
        · rw [if_pos c5] at H
          have c5b0 : decide (0 ≤ x10_1) = true:=decide_eq_true c5;clear c5
          by_cases c6 : x10_1 < (l0.length : Int)
          · rw [if_pos c6] at H
            have c6b0 : decide (x10_1 < (l0.length : Int)) = true:=decide_eq_true c6;clear c6
            by_cases c7 : ((rd_T43 l0 x10_1).f0) = a1
            · rw [if_pos c7] at H
              have c7b0 : (((rd_T43 l0 x10_1).f0) == a1) = true:=beq_iff_eq.mpr c7;have c7b1 : (((rd_T43 l0 x10_1).f0) != a1) = false:=bne_eq_false_iff_eq.mpr c7;clear c7;simp only [Option.some.injEq,Prod.mk.injEq] at H;obtain ⟨rfl,rfl,rfl,rfl,rfl⟩:=H;have p179 : 0 ≤ (x10_1 : Int):=of_decide_eq_true (by first|(with_reducible assumption)|assumption);have q179 : x10_1 < (l0.length : Int):=of_decide_eq_true (by first|(with_reducible assumption)|assumption);obtain ⟨ad179,A179_3,c179_3,e179,hx179_0,hx179_1,hx179_2,hx179_3,hl179_3,hi179_3⟩:=at_T43 (Kd.V_reads' HO_8.out).2.2 x10_1 p179 q179
              cases e179
              obtain ⟨ce179,hce179,hMe179,hcc179⟩:=Kd.V_get HO_8.out z43 x10_1 p179 (by first|exact q179|exact of_decide_eq_true (by first|(with_reducible assumption)|assumption)|(have e_:=(Kd.V_reads' HO_8.out).1;omega));obtain ⟨ua179_3,uc179_3,rfl,ul179_3,ge179_3⟩:=k43_openF hMe179;have hv179_3:=hcc179 3 _ rfl;rw [add_field _ _ 3 (by omega)] at hv179_3;replace hv179_3:=Option.some.inj (hv179_3.symm.trans hx179_3)
              injection hv179_3 with hva_ hvn_ hvc_
              rw [hva_] at ge179_3;rw [hvc_] at ul179_3;have HL179_3:=am (show Kd.V k23 23 _ w.heap.size _ _ ((rd_T43 l0 x10_1).f3) from Kd.V_mk ul179_3 ge179_3);clear hva_ hvn_ hvc_ ge179_3 ul179_3;clear hcc179 hce179;have HR179_3:=am hi179_3;have HC179_3:=am hl179_3;clear hi179_3 hl179_3;replace p179:=eq_true p179;replace q179:=eq_true q179
              go_wp2_with (first|((with_reducible refine gate_dst (N:=7) rfl ?_);refine box_event ?hg (N:=7) ?hd (cs:=#[.int .i64 0,.int .i64 0,.int .i64 0,.slice none 0 0]) (t:=43) ?hr ?_;(case hd => rfl);(case hg => rfl);(case hr => first|(go_simp;done)|(go_simp;rfl));intro gb180 hg w8 hbox hb;replace HO_8:=am (vE (by (with_reducible repeat (first|apply Kd.V_alloc|apply Kd.V_drewN|apply Kd.V_drew));exact HO_8.out) hg hb);replace HL179_3:=am (vE (by (with_reducible repeat (first|apply Kd.V_alloc|apply Kd.V_drewN|apply Kd.V_drew));exact HL179_3.out) hg hb);replace HR179_3:=am (Kd.C_below (by repeat (first|(with_reducible exact HR179_3.out)|(with_reducible refine Kd.C_alloc ?_ _)|(with_reducible refine Kd.C_drewN ?_ _)|(with_reducible refine Kd.C_drew ?_)|exact HR179_3.out)) hb);have BK180:=am (hbox);obtain ⟨h1_,GW180⟩:=sg (by repeat (first|(with_reducible first|exact HB.out|apply sa|apply sn|apply sd|refine sx ?_ GE178.out)|exact HB.out)) hb hg;replace HB:=h1_;clear h1_;have GE180:=GW180;have NB178_180:=nb (by exact BK178.out) hg;have NB180_178:=ng (by exact BK178.out) hg;replace BK178:=am (bw (by exact BK178.out) hb);clear hb hbox hg;have hnb9:=NB180_178.out;have hnc9:=NB178_180.out;obtain ⟨hcz10_0,hcz10_1,hcz10_2,hcz10_3⟩:=cq4 BK180.out;obtain ⟨hfz10_0,hfz10_1,hfz10_2,hfz10_3⟩:=fq4 BK180.out;obtain ⟨hcz11_0,hcz11_1,hcz11_2,hcz11_3⟩:=cq4 BK178.out;obtain ⟨hfz11_0,hfz11_1,hfz11_2,hfz11_3⟩:=fq4 BK178.out))
              refine bodyPost_ret (results_ct rfl _ _ gb178 43 #[.int .i64 ((rd_T43 l0 x10_1).f0),.int .i64 ((rd_T43 l0 x10_1).f1),.int .i64 ((rd_T43 l0 x10_1).f2),.slice A179_3 ((rd_T43 l0 x10_1).f3).length c179_3] (0,0) _ rfl (by (with_reducible repeat (first|refine bn ?_ _|refine bd ?_|refine ba ?_ _));refine bp (cs:=#[.int .i64 ((rd_T43 l0 x10_1).f0),.int .i64 ((rd_T43 l0 x10_1).f1),.int .i64 ((rd_T43 l0 x10_1).f2),.slice none 0 0]) ?_ 3 _ rfl;(with_reducible repeat (first|refine bn ?_ _|refine bd ?_|refine ba ?_ _));refine bp (cs:=#[.int .i64 ((rd_T43 l0 x10_1).f0),.int .i64 ((rd_T43 l0 x10_1).f1),.int .i64 x179002_1,.slice none 0 0]) ?_ 2 _ rfl;(with_reducible repeat (first|refine bn ?_ _|refine bd ?_|refine ba ?_ _));refine bp (cs:=#[.int .i64 ((rd_T43 l0 x10_1).f0),.int .i64 x179001_1,.int .i64 x179002_1,.slice none 0 0]) ?_ 1 _ rfl;(with_reducible repeat (first|refine bn ?_ _|refine bd ?_|refine ba ?_ _));refine bp (cs:=#[.int .i64 x179000_1,.int .i64 x179001_1,.int .i64 x179002_1,.slice none 0 0]) ?_ 0 _ rfl;(with_reducible repeat (first|refine bn ?_ _|refine bd ?_|refine ba ?_ _));refine bf ?_ NB178_180.out _;(with_reducible repeat (first|refine bn ?_ _|refine bd ?_|refine ba ?_ _));refine bf ?_ NB178_180.out _;(with_reducible repeat (first|refine bn ?_ _|refine bd ?_|refine ba ?_ _));refine bf ?_ NB178_180.out _;(with_reducible repeat (first|refine bn ?_ _|refine bd ?_|refine ba ?_ _));refine bf ?_ NB178_180.out _;(with_reducible repeat (first|refine bn ?_ _|refine bd ?_|refine ba ?_ _));exact BK178.out) Try.underlying43 rfl (by kernel_rfl)) rfl ?_
              exact ⟨_,by first|rfl|(simp [errW_none,errW_some] <;> rfl)|(simp [*,errW_none,errW_some] <;> rfl),by (with_reducible repeat (first|apply Kd.V_alloc|apply Kd.V_drewN|apply Kd.V_drew));exact Kd.V_mono (vf (vf (vf (vf (Kd.V_far (p:=⟨gb180,3,none⟩) (Kd.V_far (p:=⟨gb180,2,none⟩) (Kd.V_far (p:=⟨gb180,1,none⟩) (Kd.V_far (p:=⟨gb180,0,none⟩) (Kd.V_mono (vp HL179_3.out) (fun k_ hk => (⟨hk,hk.1.1.2⟩ : _ ∧ k_ ≠ gb178))) (fun _ hk => hk.1.2) (.int .i64 ((rd_T43 l0 x10_1).f0))) (fun _ hk => hk.1.2) (.int .i64 ((rd_T43 l0 x10_1).f1))) (fun _ hk => hk.1.2) (.int .i64 ((rd_T43 l0 x10_1).f2))) (fun _ hk => hk.1.2) (.slice A179_3 ((rd_T43 l0 x10_1).f3).length c179_3)))))) (fun _ hk => hk.1.1.1.1),by repeat (first|(with_reducible first|exact HB.out|apply sa|apply sn|apply sd|refine sy ?_ (by assumption))|exact HB.out)⟩
            · rw [if_neg c7] at H
              have c7b0 : (((rd_T43 l0 x10_1).f0) == a1) = false:=beq_eq_false_iff_ne.mpr c7;have c7b1 : (((rd_T43 l0 x10_1).f0) != a1) = true:=bne_iff_ne.mpr c7;have H':=am H;clear H;have p179 : 0 ≤ (x10_1 : Int):=of_decide_eq_true (by first|(with_reducible assumption)|assumption);have q179 : x10_1 < (l0.length : Int):=of_decide_eq_true (by first|(with_reducible assumption)|assumption);obtain ⟨ad179,A179_3,c179_3,e179,hx179_0,hx179_1,hx179_2,hx179_3,hl179_3,hi179_3⟩:=at_T43 (Kd.V_reads' HO_8.out).2.2 x10_1 p179 q179
              cases e179
              obtain ⟨ce179,hce179,hMe179,hcc179⟩:=Kd.V_get HO_8.out z43 x10_1 p179 (by first|exact q179|exact of_decide_eq_true (by first|(with_reducible assumption)|assumption)|(have e_:=(Kd.V_reads' HO_8.out).1;omega));obtain ⟨ua179_3,uc179_3,rfl,ul179_3,ge179_3⟩:=k43_openF hMe179;have hv179_3:=hcc179 3 _ rfl;rw [add_field _ _ 3 (by omega)] at hv179_3;replace hv179_3:=Option.some.inj (hv179_3.symm.trans hx179_3)
              injection hv179_3 with hva_ hvn_ hvc_
              rw [hva_] at ge179_3;rw [hvc_] at ul179_3;have HL179_3:=am (show Kd.V k23 23 _ w.heap.size _ _ ((rd_T43 l0 x10_1).f3) from Kd.V_mk ul179_3 ge179_3);clear hva_ hvn_ hvc_ ge179_3 ul179_3;clear hcc179 hce179;have HR179_3:=am hi179_3;have HC179_3:=am hl179_3;clear hi179_3 hl179_3;replace p179:=eq_true p179;replace q179:=eq_true q179
              go_wp2_with (first|((with_reducible refine gate_dst (N:=7) rfl ?_);refine box_event ?hg (N:=7) ?hd (cs:=#[.int .i64 0,.int .i64 0,.int .i64 0,.slice none 0 0]) (t:=43) ?hr ?_;(case hd => rfl);(case hg => rfl);(case hr => first|(go_simp;done)|(go_simp;rfl));intro gb180 hg w12 hbox hb;replace HO_8:=am (vE (by (with_reducible repeat (first|apply Kd.V_alloc|apply Kd.V_drewN|apply Kd.V_drew));exact HO_8.out) hg hb);replace HL179_3:=am (vE (by (with_reducible repeat (first|apply Kd.V_alloc|apply Kd.V_drewN|apply Kd.V_drew));exact HL179_3.out) hg hb);replace HR179_3:=am (Kd.C_below (by repeat (first|(with_reducible exact HR179_3.out)|(with_reducible refine Kd.C_alloc ?_ _)|(with_reducible refine Kd.C_drewN ?_ _)|(with_reducible refine Kd.C_drew ?_)|exact HR179_3.out)) hb);have BK180:=am (hbox);obtain ⟨h1_,GW180⟩:=sg (by repeat (first|(with_reducible first|exact HB.out|apply sa|apply sn|apply sd|refine sx ?_ GE178.out)|exact HB.out)) hb hg;replace HB:=h1_;clear h1_;have GE180:=GW180;have NB178_180:=nb (by exact BK178.out) hg;have NB180_178:=ng (by exact BK178.out) hg;replace BK178:=am (bw (by exact BK178.out) hb);clear hb hbox hg;have hnb13:=NB180_178.out;have hnc13:=NB178_180.out;obtain ⟨hcz14_0,hcz14_1,hcz14_2,hcz14_3⟩:=cq4 BK180.out;obtain ⟨hfz14_0,hfz14_1,hfz14_2,hfz14_3⟩:=fq4 BK180.out))
              go_roundg k1
              case measure => have:=HK1.out;omega
              case rel => exact ⟨(wrap64 (x10_1 + 1)),(x179000_1),(x179001_1),(x179002_1),(by first|rfl|(simp;done)|(simp [*];done)),H',⟨by have:=HK1.out;omega⟩,⟨by (with_reducible repeat (first|apply Kd.V_alloc|apply Kd.V_drewN|apply Kd.V_drew));exact Kd.V_mono (vf (vf (vf (vf (vp HO_8.out))))) (fun _ hk => ⟨hk.1.1.1,hk.1.1.2⟩)⟩,⟨by (with_reducible repeat (first|refine bn ?_ _|refine bd ?_|refine ba ?_ _|refine bf ?_ NB178_180.out _));exact BK178.out⟩,⟨by repeat (first|(with_reducible first|exact HB.out|apply sa|apply sn|apply sd|refine sy ?_ (by assumption))|exact HB.out)⟩⟩
          · rw [if_neg c6] at H
            exact absurd H (by simp)
        · rw [if_neg c5] at H
          exact absurd H (by simp)
      · rw [if_neg c4] at H
        have c4b0 : decide (x10_1 < (l0.length : Int)) = false:=decide_eq_false c4;clear c4;simp only [Option.some.injEq,Prod.mk.injEq] at H;obtain ⟨rfl,rfl,rfl,rfl,rfl⟩:=H;obtain ⟨hcz15_0,hcz15_1,hcz15_2,hcz15_3⟩:=cq4 BK178.out;obtain ⟨hfz15_0,hfz15_1,hfz15_2,hfz15_3⟩:=fq4 BK178.out
        go_wp2
        refine bodyPost_ret (results_ct rfl _ _ gb178 43 #[.int .i64 0,.int .i64 0,.int .i64 0,.slice none 0 0] (0,0) _ rfl (bp (bp (bp (bp BK178.out 0 _ rfl) 1 _ rfl) 2 _ rfl) 3 _ rfl) Try.underlying43 rfl (by kernel_rfl)) rfl ?_
        exact ⟨_,by first|rfl|(simp [errW_none,errW_some] <;> rfl)|(simp [*,errW_none,errW_some] <;> rfl),(Kd.V_nil _ _ _ _ _),by repeat (first|(with_reducible first|exact HB.out|apply sa|apply sn|apply sd|refine sx ?_ GE178.out)|exact HB.out)⟩
end Go.Proofs.Ytmdfcinjmlagcaa.P
