/- Printed by printx.py (wip/tool) out of the translation: plain functions that tell what the program answers, and the proofs that the program comes to these answers, for all arguments of their kinds. Lean checks it. -/
import Derived.Test.YtmdfcinjmlagcaaShort
import Derived.Test.YtmdfcinjmlagcaaWThree
import Derived.Test.YtmdfcinjmlagcaaPx0
import Derived.Test.YtmdfcinjmlagcaaPx1
import Derived.Test.YtmdfcinjmlagcaaPx4
namespace Go.Proofs.Ytmdfcinjmlagcaa.P
open Go.RowKit Go.Proofs.YtmdfcinjmlagcaaW.PrintWords Go.Proofs.YtmdfcinjmlagcaaW.PrintLast Go.Proofs.YtmdfcinjmlagcaaW.PrintMore
attribute [local go_sem] max2_int min2_int max_two min_two max_three min_three max_four min_four max_five min_five max_six min_six   -- for this text's walks alone
set_option linter.unusedVariables false
set_option linter.unusedSimpArgs false

attribute [local go_sem high] eqA23
/-! ### celluloidlaw20_PaintFaint: function 3 -/
def celluloidlaw20_PaintFaint.f (k : Nat) (a0_0 : Int) (a0_1 : Int) (a0_2 : Int) (a0_3 : Int) : Option (Bool):=(paint_Faint.f k a0_0 a0_1 a0_2 a0_3).bind fun bt128 => ((paint_Clear.f k a0_0 a0_1 a0_2 a0_3).bind fun bt132 => ((celluloidref07_RGBA.f k a0_0 a0_1 a0_2 a0_3).bind fun t138 => (if t138 = true then ((celluloidref20_Faint.f a0_0 a0_1 a0_2 a0_3).bind fun bt139 => (if (bt128.1 == bt139.1 && (bt128.2.1 == bt139.2.1 && (bt128.2.2.1 == bt139.2.2.1 && (bt128.2.2.2 == bt139.2.2.2)))) = true then ((celluloidref20_Clear.f a0_0 a0_1 a0_2 a0_3).bind fun bt143 => (if (bt132.1 == bt143.1 && (bt132.2.1 == bt143.2.1 && (bt132.2.2.1 == bt143.2.2.1 && (bt132.2.2.2 == bt143.2.2.2)))) = true then ((celluloidlaw20_awake.f k).bind fun t147 => (some t147)) else (some false))) else (some false))) else (if (bt128.1 == 0 && (bt128.2.1 == 0 && (bt128.2.2.1 == 0 && (bt128.2.2.2 == 0)))) = true then (if (bt132.1 == 0 && (bt132.2.1 == 0 && (bt132.2.2.1 == 0 && (bt132.2.2.2 == 0)))) = true then ((celluloidlaw20_awake.f k).bind fun t148 => (some t148)) else (some false)) else (some false)))))
theorem celluloidlaw20_PaintFaint.mono : ∀ a0 a1 a2 a3 k,LeO (celluloidlaw20_PaintFaint.f k a0 a1 a2 a3) (celluloidlaw20_PaintFaint.f (k + 1) a0 a1 a2 a3):=by
  intro a0 a1 a2 a3 k
  unfold celluloidlaw20_PaintFaint.f
  repeat' first
      | (with_reducible exact celluloidlaw20_awake.mono _)
      | (with_reducible exact celluloidref07_RGBA.mono _ _ _ _ _)
      | (with_reducible exact paint_Clear.mono _ _ _ _ _)
      | (with_reducible exact paint_Faint.mono _ _ _ _ _)
      | (with_reducible exact LeO.refl _)
      | (with_reducible exact LeO.none _)
      | (with_reducible refine LeO.ite ?_ ?_)
      | (with_reducible refine LeO.bind ?_ (fun _ => ?_))
      | exact celluloidlaw20_awake.mono _
      | exact celluloidref07_RGBA.mono _ _ _ _ _
      | exact paint_Clear.mono _ _ _ _ _
      | exact paint_Faint.mono _ _ _ _ _
      | exact LeO.none _
      | refine LeO.ite ?_ ?_
      | refine LeO.bind ?_ (fun _ => ?_)
def celluloidlaw20_PaintFaint.T1 : Bool × List (List Nat × List Nat):=(true,[([],[]),([0],[0]),([],[]),([2,1],[2]),([],[]),([],[]),([4,1,3,0,1,4,5],[1,4]),([5,3,6,0,1,2,3,4,5,6],[3,5])])
def celluloidlaw20_PaintFaint.B1 : List Nat:=[0,1,0,7,0,0,63,127]
theorem celluloidlaw20_PaintFaint.tab1 : rtab .any (opsOf Try.f3 1) = celluloidlaw20_PaintFaint.T1:=by kernel_rfl
theorem celluloidlaw20_PaintFaint.bits1 : waitsOk celluloidlaw20_PaintFaint.T1.2 celluloidlaw20_PaintFaint.B1 = true:=by kernel_rfl
def celluloidlaw20_PaintFaint.T4 : Bool × List (List Nat × List Nat):=(true,[([],[]),([],[]),([1],[1]),([0,2],[0,2]),([3,2],[3]),([4],[4]),([4],[4]),([6,4,4],[4,6]),([5,7,4],[4,5,7]),([4,8],[4,8]),([9,7],[9]),([10,10],[10]),([10,11],[10,11]),([12,11,0,1,2,3,4,5,6,7,8,9,10,11,12],[12])])
def celluloidlaw20_PaintFaint.B4 : List Nat:=[0,0,2,7,15,31,31,95,255,511,1023,2047,4095,8191]
theorem celluloidlaw20_PaintFaint.tab4 : rtab .any (opsOf Try.f3 4) = celluloidlaw20_PaintFaint.T4:=by kernel_rfl
theorem celluloidlaw20_PaintFaint.bits4 : waitsOk celluloidlaw20_PaintFaint.T4.2 celluloidlaw20_PaintFaint.B4 = true:=by kernel_rfl
set_option maxHeartbeats 8000000 in
set_option maxRecDepth 100000 in
theorem celluloidlaw20_PaintFaint.calls (k : Nat) (a0_0 : Int) (a0_1 : Int) (a0_2 : Int) (a0_3 : Int) (r : Bool) (w : World) (h : celluloidlaw20_PaintFaint.f k a0_0 a0_1 a0_2 a0_3 = some r) :
    Calls Try.prog 3 #[.agg #[.int .i64 a0_0,.int .i64 a0_1,.int .i64 a0_2,.int .i64 a0_3]] w fun e w' => e = .returned (.bool r) ∧ Below w.heap.size w w':=by
  have hu23:=Try.underlying23;have HB:=am (Below.refl w.heap.size w);have H : ((paint_Faint.f k a0_0 a0_1 a0_2 a0_3).bind fun bt128 => ((paint_Clear.f k a0_0 a0_1 a0_2 a0_3).bind fun bt132 => ((celluloidref07_RGBA.f k a0_0 a0_1 a0_2 a0_3).bind fun t138 => (if t138 = true then ((celluloidref20_Faint.f a0_0 a0_1 a0_2 a0_3).bind fun bt139 => (if (bt128.1 == bt139.1 && (bt128.2.1 == bt139.2.1 && (bt128.2.2.1 == bt139.2.2.1 && (bt128.2.2.2 == bt139.2.2.2)))) = true then ((celluloidref20_Clear.f a0_0 a0_1 a0_2 a0_3).bind fun bt143 => (if (bt132.1 == bt143.1 && (bt132.2.1 == bt143.2.1 && (bt132.2.2.1 == bt143.2.2.1 && (bt132.2.2.2 == bt143.2.2.2)))) = true then ((celluloidlaw20_awake.f k).bind fun t147 => (some t147)) else (some false))) else (some false))) else (if (bt128.1 == 0 && (bt128.2.1 == 0 && (bt128.2.2.1 == 0 && (bt128.2.2.2 == 0)))) = true then (if (bt132.1 == 0 && (bt132.2.1 == 0 && (bt132.2.2.1 == 0 && (bt132.2.2.2 == 0)))) = true then ((celluloidlaw20_awake.f k).bind fun t148 => (some t148)) else (some false)) else (some false)))))) = some r:=h;clear h;replace H:=Option.bind_eq_some_iff.mp H;obtain ⟨⟨t128,t129,t130,t131⟩,A20,H⟩:=H;replace H : ((paint_Clear.f k a0_0 a0_1 a0_2 a0_3).bind fun bt132 => ((celluloidref07_RGBA.f k a0_0 a0_1 a0_2 a0_3).bind fun t138 => (if t138 = true then ((celluloidref20_Faint.f a0_0 a0_1 a0_2 a0_3).bind fun bt139 => (if (t128 == bt139.1 && (t129 == bt139.2.1 && (t130 == bt139.2.2.1 && (t131 == bt139.2.2.2)))) = true then ((celluloidref20_Clear.f a0_0 a0_1 a0_2 a0_3).bind fun bt143 => (if (bt132.1 == bt143.1 && (bt132.2.1 == bt143.2.1 && (bt132.2.2.1 == bt143.2.2.1 && (bt132.2.2.2 == bt143.2.2.2)))) = true then ((celluloidlaw20_awake.f k).bind fun t147 => (some t147)) else (some false))) else (some false))) else (if (t128 == 0 && (t129 == 0 && (t130 == 0 && (t131 == 0)))) = true then (if (bt132.1 == 0 && (bt132.2.1 == 0 && (bt132.2.2.1 == 0 && (bt132.2.2.2 == 0)))) = true then ((celluloidlaw20_awake.f k).bind fun t148 => (some t148)) else (some false)) else (some false))))) = some r:=H;have A2:=am A20;clear A20;replace H:=Option.bind_eq_some_iff.mp H;obtain ⟨⟨t132,t133,t134,t135⟩,A30,H⟩:=H;replace H : ((celluloidref07_RGBA.f k a0_0 a0_1 a0_2 a0_3).bind fun t138 => (if t138 = true then ((celluloidref20_Faint.f a0_0 a0_1 a0_2 a0_3).bind fun bt139 => (if (t128 == bt139.1 && (t129 == bt139.2.1 && (t130 == bt139.2.2.1 && (t131 == bt139.2.2.2)))) = true then ((celluloidref20_Clear.f a0_0 a0_1 a0_2 a0_3).bind fun bt143 => (if (t132 == bt143.1 && (t133 == bt143.2.1 && (t134 == bt143.2.2.1 && (t135 == bt143.2.2.2)))) = true then ((celluloidlaw20_awake.f k).bind fun t147 => (some t147)) else (some false))) else (some false))) else (if (t128 == 0 && (t129 == 0 && (t130 == 0 && (t131 == 0)))) = true then (if (t132 == 0 && (t133 == 0 && (t134 == 0 && (t135 == 0)))) = true then ((celluloidlaw20_awake.f k).bind fun t148 => (some t148)) else (some false)) else (some false)))) = some r:=H;have A3:=am A30;clear A30;replace H:=Option.bind_eq_some_iff.mp H;obtain ⟨t138,A40,H⟩:=H;replace H : (if t138 = true then ((celluloidref20_Faint.f a0_0 a0_1 a0_2 a0_3).bind fun bt139 => (if (t128 == bt139.1 && (t129 == bt139.2.1 && (t130 == bt139.2.2.1 && (t131 == bt139.2.2.2)))) = true then ((celluloidref20_Clear.f a0_0 a0_1 a0_2 a0_3).bind fun bt143 => (if (t132 == bt143.1 && (t133 == bt143.2.1 && (t134 == bt143.2.2.1 && (t135 == bt143.2.2.2)))) = true then ((celluloidlaw20_awake.f k).bind fun t147 => (some t147)) else (some false))) else (some false))) else (if (t128 == 0 && (t129 == 0 && (t130 == 0 && (t131 == 0)))) = true then (if (t132 == 0 && (t133 == 0 && (t134 == 0 && (t135 == 0)))) = true then ((celluloidlaw20_awake.f k).bind fun t148 => (some t148)) else (some false)) else (some false))) = some r:=H;have A4:=am A40;clear A40
  go_enter Try.func3,Try.ntmps3
  try go_wp2_with (first|((with_reducible refine gate_dst (N:=1) rfl ?_);refine box_event ?hg (N:=1) ?hd (cs:=#[.int .i64 a0_0,.int .i64 a0_1,.int .i64 a0_2,.int .i64 a0_3]) (t:=23) ?hr ?_;(case hd => rfl);(case hg => rfl);(case hr => first|(go_simp;done)|(go_simp;rfl));intro gb127 hg w11 hbox hb;have BK127:=am (hbox);have GW127:=am ((by rw [hg];exact (sz (by repeat (first|(with_reducible first|exact HB.out|apply sa|apply sn|apply sd)|exact HB.out))) : w.heap.size ≤ gb127));have GE127:=am ((by rw [hg];exact (sz (by repeat (first|(with_reducible first|exact HB.out|apply sa|apply sn|apply sd)|exact HB.out))) : w.heap.size ≤ gb127));replace HB:=am (ss (by repeat (first|(with_reducible first|exact HB.out|apply sa|apply sn|apply sd)|exact HB.out)) hb);clear hb hbox hg))
  replace BK127:=am (bd BK127.out);replace HB:=am (sd HB.out);refine start_ (n:=8) (S:=fun w' => w'.cell? ⟨gb127,0,none⟩ = some (.int .i64 a0_0) ∧ w'.cell? ⟨gb127,1,none⟩ = some (.int .i64 a0_1) ∧ w'.cell? ⟨gb127,2,none⟩ = some (.int .i64 a0_2) ∧ w'.cell? ⟨gb127,3,none⟩ = some (.int .i64 a0_3)) (ds:=[]) #[false,false,false,false,false,false,false,false] (by kernel_rfl) rfl rfl ⟨(bc BK127.out 0).trans rfl,(bc BK127.out 1).trans rfl,(bc BK127.out 2).trans rfl,(bc BK127.out 3).trans rfl⟩ (fun hHeld => ?_);refine with_tabW celluloidlaw20_PaintFaint.tab1 celluloidlaw20_PaintFaint.bits1 (fun HT_ HW_ => ?_);generalize w11.drew = w12 at BK127 HB hHeld ⊢;refine take_ (i:=0) (N:=some 5) (v:=?_) (a':=?_) #[true,false,false,false,false,false,false,false] rfl rfl (take_ofW HT_.out HW_.out (by kernel_rfl)) (fun _ _ _ h => h) (Or.inl ⟨by rfl,?_⟩) hHeld ?_ ?_
  rotate_left
  · rintro w' ⟨s0,s1,s2,s3⟩
    go_simp
    with_reducible rfl
  rotate_left
  · simp only [Act.put,q1,q2,q3,i64_w,i32_w]
    rfl
  refine take_ (i:=2) (N:=some 7) (v:=?_) (a':=?_) #[true,false,true,false,false,false,false,false] rfl rfl (take_ofW HT_.out HW_.out (by kernel_rfl)) (fun _ _ _ h => h) (Or.inl ⟨by rfl,?_⟩) hHeld ?_ ?_
  rotate_left
  · rintro w' ⟨s0,s1,s2,s3⟩
    go_simp
    with_reducible rfl
  rotate_left
  · simp only [Act.put,q1,q2,q3,i64_w,i32_w]
    rfl
  refine join_ (σ:=Nat × Nat) 2 #[true,true,true,true,true,true,false,false] (fun s_ => [(6,.agg #[.int .i64 t128,.int .i64 t129,.int .i64 t130,.int .i64 t131]),(8,.agg #[.int .i64 t132,.int .i64 t133,.int .i64 t134,.int .i64 t135]),(3,.pointer (some ⟨s_.1,0,none⟩)),(4,.pointer (some ⟨s_.2,0,none⟩))]) (fun s_ w' => (w'.cell? ⟨gb127,0,none⟩ = some (.int .i64 a0_0) ∧ w'.cell? ⟨gb127,1,none⟩ = some (.int .i64 a0_1) ∧ w'.cell? ⟨gb127,2,none⟩ = some (.int .i64 a0_2) ∧ w'.cell? ⟨gb127,3,none⟩ = some (.int .i64 a0_3)) ∧ (w'.heap[gb127]? = some (.cells #[.int .i64 a0_0,.int .i64 a0_1,.int .i64 a0_2,.int .i64 a0_3] 23 (0,0))) ∧ (w'.heap[s_.1]? = some (.cells #[.int .i64 0,.int .i64 0,.int .i64 0,.int .i64 0] 23 (0,0))) ∧ (w'.heap[s_.2]? = some (.cells #[.int .i64 0,.int .i64 0,.int .i64 0,.int .i64 0] 23 (0,0))) ∧ (w.heap.size ≤ s_.1) ∧ (w.heap.size ≤ s_.1) ∧ (gb127 ≠ s_.1) ∧ (s_.1 ≠ gb127) ∧ (s_.2 ≠ s_.1) ∧ (s_.1 ≠ s_.2) ∧ (w.heap.size ≤ s_.2) ∧ (w.heap.size ≤ s_.2) ∧ (gb127 ≠ s_.2) ∧ (s_.2 ≠ gb127) ∧ (Below w.heap.size w w')) ?_ ?_
  rotate_left
  · intro hJ1_3_4_5
    refine join_ (σ:=Nat) 3 #[true,true,true,true,true,false,false,false] (fun s_ => [(6,.agg #[.int .i64 t128,.int .i64 t129,.int .i64 t130,.int .i64 t131]),(8,.agg #[.int .i64 t132,.int .i64 t133,.int .i64 t134,.int .i64 t135]),(3,.pointer (some ⟨s_,0,none⟩))]) (fun s_ w' => (w'.cell? ⟨gb127,0,none⟩ = some (.int .i64 a0_0) ∧ w'.cell? ⟨gb127,1,none⟩ = some (.int .i64 a0_1) ∧ w'.cell? ⟨gb127,2,none⟩ = some (.int .i64 a0_2) ∧ w'.cell? ⟨gb127,3,none⟩ = some (.int .i64 a0_3)) ∧ (w'.heap[gb127]? = some (.cells #[.int .i64 a0_0,.int .i64 a0_1,.int .i64 a0_2,.int .i64 a0_3] 23 (0,0))) ∧ (w'.heap[s_]? = some (.cells #[.int .i64 0,.int .i64 0,.int .i64 0,.int .i64 0] 23 (0,0))) ∧ (w.heap.size ≤ s_) ∧ (w.heap.size ≤ s_) ∧ (gb127 ≠ s_) ∧ (s_ ≠ gb127) ∧ (Below w.heap.size w w')) ?_ ?_
    rotate_left
    · intro hJ1_3_4
      refine join_ (σ:=Nat) 3 #[true,true,true,true,false,true,false,false] (fun s_ => [(6,.agg #[.int .i64 t128,.int .i64 t129,.int .i64 t130,.int .i64 t131]),(8,.agg #[.int .i64 t132,.int .i64 t133,.int .i64 t134,.int .i64 t135]),(4,.pointer (some ⟨s_,0,none⟩))]) (fun s_ w' => (w'.cell? ⟨gb127,0,none⟩ = some (.int .i64 a0_0) ∧ w'.cell? ⟨gb127,1,none⟩ = some (.int .i64 a0_1) ∧ w'.cell? ⟨gb127,2,none⟩ = some (.int .i64 a0_2) ∧ w'.cell? ⟨gb127,3,none⟩ = some (.int .i64 a0_3)) ∧ (w'.heap[gb127]? = some (.cells #[.int .i64 a0_0,.int .i64 a0_1,.int .i64 a0_2,.int .i64 a0_3] 23 (0,0))) ∧ (w'.heap[s_]? = some (.cells #[.int .i64 0,.int .i64 0,.int .i64 0,.int .i64 0] 23 (0,0))) ∧ (w.heap.size ≤ s_) ∧ (w.heap.size ≤ s_) ∧ (gb127 ≠ s_) ∧ (s_ ≠ gb127) ∧ (Below w.heap.size w w')) ?_ ?_
      rotate_left
      · intro hJ1_3_5
        refine join_ (σ:=Nat × Nat) 3 #[true,true,true,false,true,true,false,false] (fun s_ => [(6,.agg #[.int .i64 t128,.int .i64 t129,.int .i64 t130,.int .i64 t131]),(3,.pointer (some ⟨s_.1,0,none⟩)),(4,.pointer (some ⟨s_.2,0,none⟩))]) (fun s_ w' => (w'.cell? ⟨gb127,0,none⟩ = some (.int .i64 a0_0) ∧ w'.cell? ⟨gb127,1,none⟩ = some (.int .i64 a0_1) ∧ w'.cell? ⟨gb127,2,none⟩ = some (.int .i64 a0_2) ∧ w'.cell? ⟨gb127,3,none⟩ = some (.int .i64 a0_3)) ∧ (w'.heap[gb127]? = some (.cells #[.int .i64 a0_0,.int .i64 a0_1,.int .i64 a0_2,.int .i64 a0_3] 23 (0,0))) ∧ (w'.heap[s_.1]? = some (.cells #[.int .i64 0,.int .i64 0,.int .i64 0,.int .i64 0] 23 (0,0))) ∧ (w'.heap[s_.2]? = some (.cells #[.int .i64 0,.int .i64 0,.int .i64 0,.int .i64 0] 23 (0,0))) ∧ (w.heap.size ≤ s_.1) ∧ (w.heap.size ≤ s_.1) ∧ (gb127 ≠ s_.1) ∧ (s_.1 ≠ gb127) ∧ (s_.2 ≠ s_.1) ∧ (s_.1 ≠ s_.2) ∧ (w.heap.size ≤ s_.2) ∧ (w.heap.size ≤ s_.2) ∧ (gb127 ≠ s_.2) ∧ (s_.2 ≠ gb127) ∧ (Below w.heap.size w w')) ?_ ?_
        rotate_left
        · intro hJ1_4_5
          refine join_ (σ:=Unit) 4 #[true,true,true,true,false,false,false,false] (fun s_ => [(6,.agg #[.int .i64 t128,.int .i64 t129,.int .i64 t130,.int .i64 t131]),(8,.agg #[.int .i64 t132,.int .i64 t133,.int .i64 t134,.int .i64 t135])]) (fun s_ w' => (w'.cell? ⟨gb127,0,none⟩ = some (.int .i64 a0_0) ∧ w'.cell? ⟨gb127,1,none⟩ = some (.int .i64 a0_1) ∧ w'.cell? ⟨gb127,2,none⟩ = some (.int .i64 a0_2) ∧ w'.cell? ⟨gb127,3,none⟩ = some (.int .i64 a0_3)) ∧ (w'.heap[gb127]? = some (.cells #[.int .i64 a0_0,.int .i64 a0_1,.int .i64 a0_2,.int .i64 a0_3] 23 (0,0))) ∧ (Below w.heap.size w w')) ?_ ?_
          rotate_left
          · intro hJ1_3
            refine join_ (σ:=Nat) 4 #[true,true,true,false,true,false,false,false] (fun s_ => [(6,.agg #[.int .i64 t128,.int .i64 t129,.int .i64 t130,.int .i64 t131]),(3,.pointer (some ⟨s_,0,none⟩))]) (fun s_ w' => (w'.cell? ⟨gb127,0,none⟩ = some (.int .i64 a0_0) ∧ w'.cell? ⟨gb127,1,none⟩ = some (.int .i64 a0_1) ∧ w'.cell? ⟨gb127,2,none⟩ = some (.int .i64 a0_2) ∧ w'.cell? ⟨gb127,3,none⟩ = some (.int .i64 a0_3)) ∧ (w'.heap[gb127]? = some (.cells #[.int .i64 a0_0,.int .i64 a0_1,.int .i64 a0_2,.int .i64 a0_3] 23 (0,0))) ∧ (w'.heap[s_]? = some (.cells #[.int .i64 0,.int .i64 0,.int .i64 0,.int .i64 0] 23 (0,0))) ∧ (w.heap.size ≤ s_) ∧ (w.heap.size ≤ s_) ∧ (gb127 ≠ s_) ∧ (s_ ≠ gb127) ∧ (Below w.heap.size w w')) ?_ ?_
            rotate_left
            · intro hJ1_4
              refine join_ (σ:=Nat) 4 #[true,true,true,false,false,true,false,false] (fun s_ => [(6,.agg #[.int .i64 t128,.int .i64 t129,.int .i64 t130,.int .i64 t131]),(4,.pointer (some ⟨s_,0,none⟩))]) (fun s_ w' => (w'.cell? ⟨gb127,0,none⟩ = some (.int .i64 a0_0) ∧ w'.cell? ⟨gb127,1,none⟩ = some (.int .i64 a0_1) ∧ w'.cell? ⟨gb127,2,none⟩ = some (.int .i64 a0_2) ∧ w'.cell? ⟨gb127,3,none⟩ = some (.int .i64 a0_3)) ∧ (w'.heap[gb127]? = some (.cells #[.int .i64 a0_0,.int .i64 a0_1,.int .i64 a0_2,.int .i64 a0_3] 23 (0,0))) ∧ (w'.heap[s_]? = some (.cells #[.int .i64 0,.int .i64 0,.int .i64 0,.int .i64 0] 23 (0,0))) ∧ (w.heap.size ≤ s_) ∧ (w.heap.size ≤ s_) ∧ (gb127 ≠ s_) ∧ (s_ ≠ gb127) ∧ (Below w.heap.size w w')) ?_ ?_
              rotate_left
              · intro hJ1_5
                refine join_ (σ:=Nat × Nat) 4 #[true,false,true,false,true,true,false,false] (fun s_ => [(3,.pointer (some ⟨s_.1,0,none⟩)),(4,.pointer (some ⟨s_.2,0,none⟩))]) (fun s_ w' => (w'.cell? ⟨gb127,0,none⟩ = some (.int .i64 a0_0) ∧ w'.cell? ⟨gb127,1,none⟩ = some (.int .i64 a0_1) ∧ w'.cell? ⟨gb127,2,none⟩ = some (.int .i64 a0_2) ∧ w'.cell? ⟨gb127,3,none⟩ = some (.int .i64 a0_3)) ∧ (w'.heap[gb127]? = some (.cells #[.int .i64 a0_0,.int .i64 a0_1,.int .i64 a0_2,.int .i64 a0_3] 23 (0,0))) ∧ (w'.heap[s_.1]? = some (.cells #[.int .i64 0,.int .i64 0,.int .i64 0,.int .i64 0] 23 (0,0))) ∧ (w'.heap[s_.2]? = some (.cells #[.int .i64 0,.int .i64 0,.int .i64 0,.int .i64 0] 23 (0,0))) ∧ (w.heap.size ≤ s_.1) ∧ (w.heap.size ≤ s_.1) ∧ (gb127 ≠ s_.1) ∧ (s_.1 ≠ gb127) ∧ (s_.2 ≠ s_.1) ∧ (s_.1 ≠ s_.2) ∧ (w.heap.size ≤ s_.2) ∧ (w.heap.size ≤ s_.2) ∧ (gb127 ≠ s_.2) ∧ (s_.2 ≠ gb127) ∧ (Below w.heap.size w w')) ?_ ?_
                rotate_left
                · intro hJ4_5
                  refine join_ (σ:=Unit) 5 #[true,true,true,false,false,false,false,false] (fun s_ => [(6,.agg #[.int .i64 t128,.int .i64 t129,.int .i64 t130,.int .i64 t131])]) (fun s_ w' => (w'.cell? ⟨gb127,0,none⟩ = some (.int .i64 a0_0) ∧ w'.cell? ⟨gb127,1,none⟩ = some (.int .i64 a0_1) ∧ w'.cell? ⟨gb127,2,none⟩ = some (.int .i64 a0_2) ∧ w'.cell? ⟨gb127,3,none⟩ = some (.int .i64 a0_3)) ∧ (w'.heap[gb127]? = some (.cells #[.int .i64 a0_0,.int .i64 a0_1,.int .i64 a0_2,.int .i64 a0_3] 23 (0,0))) ∧ (Below w.heap.size w w')) ?_ ?_
                  rotate_left
                  · intro hJ1
                    refine join_ (σ:=Nat) 5 #[true,false,true,false,true,false,false,false] (fun s_ => [(3,.pointer (some ⟨s_,0,none⟩))]) (fun s_ w' => (w'.cell? ⟨gb127,0,none⟩ = some (.int .i64 a0_0) ∧ w'.cell? ⟨gb127,1,none⟩ = some (.int .i64 a0_1) ∧ w'.cell? ⟨gb127,2,none⟩ = some (.int .i64 a0_2) ∧ w'.cell? ⟨gb127,3,none⟩ = some (.int .i64 a0_3)) ∧ (w'.heap[gb127]? = some (.cells #[.int .i64 a0_0,.int .i64 a0_1,.int .i64 a0_2,.int .i64 a0_3] 23 (0,0))) ∧ (w'.heap[s_]? = some (.cells #[.int .i64 0,.int .i64 0,.int .i64 0,.int .i64 0] 23 (0,0))) ∧ (w.heap.size ≤ s_) ∧ (w.heap.size ≤ s_) ∧ (gb127 ≠ s_) ∧ (s_ ≠ gb127) ∧ (Below w.heap.size w w')) ?_ ?_
                    rotate_left
                    · intro hJ4
                      refine join_ (σ:=Nat) 5 #[true,false,true,false,false,true,false,false] (fun s_ => [(4,.pointer (some ⟨s_,0,none⟩))]) (fun s_ w' => (w'.cell? ⟨gb127,0,none⟩ = some (.int .i64 a0_0) ∧ w'.cell? ⟨gb127,1,none⟩ = some (.int .i64 a0_1) ∧ w'.cell? ⟨gb127,2,none⟩ = some (.int .i64 a0_2) ∧ w'.cell? ⟨gb127,3,none⟩ = some (.int .i64 a0_3)) ∧ (w'.heap[gb127]? = some (.cells #[.int .i64 a0_0,.int .i64 a0_1,.int .i64 a0_2,.int .i64 a0_3] 23 (0,0))) ∧ (w'.heap[s_]? = some (.cells #[.int .i64 0,.int .i64 0,.int .i64 0,.int .i64 0] 23 (0,0))) ∧ (w.heap.size ≤ s_) ∧ (w.heap.size ≤ s_) ∧ (gb127 ≠ s_) ∧ (s_ ≠ gb127) ∧ (Below w.heap.size w w')) ?_ ?_
                      rotate_left
                      · intro hJ5
                        refine three_ (i:=1) (j:=4) (k:=5) (Ni:=some 6) (Nj:=some 3) (Nk:=some 4) #[true,true,true,false,false,false,false,false] #[true,false,true,false,true,false,false,false] #[true,false,true,false,false,true,false,false] rfl rfl rfl rfl rfl rfl (three_of HT_.out (by kernel_rfl)) (by decide) (by decide) (by decide) (fun K hK => ?_) (fun K hK => ?_) (fun K hK => ?_)
                        · skip
                          refine goes_ Try.func9 (by kernel_rfl) rfl #[.agg #[.int .i64 a0_0,.int .i64 a0_1,.int .i64 a0_2,.int .i64 a0_3]] (by rfl) rfl rfl (by (try simp only [List.map_toArray,List.map_cons,List.map_nil]);first|done|rfl|(simp only [List.length_drop,List.length_take];rfl)) ?_
                          with_reducible refine (paint_Faint.calls k a0_0 a0_1 a0_2 a0_3 t128 t129 t130 t131 _ A2.out).mono ?_
                          rintro e w13 ⟨rfl,hb⟩
                          refine ⟨_,rfl,?_⟩;replace BK127:=am (bw (by exact BK127.out) hb);replace HB:=am (ss (by repeat (first|(with_reducible first|exact HB.out|apply sa|apply sn|apply sd|refine sx ?_ GE127.out)|exact HB.out)) hb);(try clear hb);(try clear hb2);(try clear hk);(try clear hi);refine hK.out _ _ ⟨(bc BK127.out 0).trans rfl,(bc BK127.out 1).trans rfl,(bc BK127.out 2).trans rfl,(bc BK127.out 3).trans rfl⟩ (fun hHeld => ?_);clear hK K;refine norm_ (a':=?_) ?_ ?_
                          rotate_left
                          · show Act.put _ (some 6) _ = _
                            simp only [Act.put,q1,q2,q3,i64_w,i32_w]
                            rfl
                          exact norm_ (by first|(simp only [putAll,Act.put,q1,q2,q3];done)|(simp only [putAll,Act.put,q1,q2,q3];rfl)) (hJ1 () _ ⟨hHeld,(by exact BK127.out),(by repeat (first|(with_reducible first|exact HB.out|apply sa|apply sn|apply sd|refine sx ?_ GE127.out)|exact HB.out))⟩)
                        · skip
                          refine box_step ?hg (N:=3) ?hd (cs:=#[.int .i64 0,.int .i64 0,.int .i64 0,.int .i64 0]) (t:=23) ?hr ?_;(case hd => rfl);(case hg => rfl);(case hr => first|(go_simp;done)|(go_simp;rfl))
                          intro gb136 hg w13 hbox hb
                          have BK136:=am (hbox);have GW136:=am ((by rw [hg];exact (sz (by repeat (first|(with_reducible first|exact HB.out|apply sa|apply sn|apply sd|refine sx ?_ GE127.out)|exact HB.out))) : w.heap.size ≤ gb136));have GE136:=am ((by rw [hg];exact (sz (by repeat (first|(with_reducible first|exact HB.out|apply sa|apply sn|apply sd|refine sx ?_ GE127.out)|exact HB.out))) : w.heap.size ≤ gb136));replace HB:=am (ss (by repeat (first|(with_reducible first|exact HB.out|apply sa|apply sn|apply sd|refine sx ?_ GE127.out)|exact HB.out)) hb);have NB127_136:=nb (by exact BK127.out) hg;have NB136_127:=ng (by exact BK127.out) hg;replace BK127:=am (bw (by exact BK127.out) hb);clear hb hbox hg;refine hK.out _ _ ⟨(bc BK127.out 0).trans rfl,(bc BK127.out 1).trans rfl,(bc BK127.out 2).trans rfl,(bc BK127.out 3).trans rfl⟩ (fun hHeld => ?_);clear hK K;refine norm_ (a':=?_) ?_ ?_
                          rotate_left
                          · show Act.put _ (some 3) _ = _
                            simp only [Act.put,q1,q2,q3,i64_w,i32_w]
                            rfl
                          exact norm_ (by first|(simp only [putAll,Act.put,q1,q2,q3];done)|(simp only [putAll,Act.put,q1,q2,q3];rfl)) (hJ4 (gb136) _ ⟨hHeld,(by exact BK127.out),(by exact BK136.out),GW136.out,GE136.out,NB127_136.out,NB136_127.out,(by repeat (first|(with_reducible first|exact HB.out|apply sa|apply sn|apply sd|refine sy ?_ (by assumption))|exact HB.out))⟩)
                        · skip
                          refine box_step ?hg (N:=4) ?hd (cs:=#[.int .i64 0,.int .i64 0,.int .i64 0,.int .i64 0]) (t:=23) ?hr ?_;(case hd => rfl);(case hg => rfl);(case hr => first|(go_simp;done)|(go_simp;rfl))
                          intro gb137 hg w13 hbox hb
                          have BK137:=am (hbox);have GW137:=am ((by rw [hg];exact (sz (by repeat (first|(with_reducible first|exact HB.out|apply sa|apply sn|apply sd|refine sx ?_ GE127.out)|exact HB.out))) : w.heap.size ≤ gb137));have GE137:=am ((by rw [hg];exact (sz (by repeat (first|(with_reducible first|exact HB.out|apply sa|apply sn|apply sd|refine sx ?_ GE127.out)|exact HB.out))) : w.heap.size ≤ gb137));replace HB:=am (ss (by repeat (first|(with_reducible first|exact HB.out|apply sa|apply sn|apply sd|refine sx ?_ GE127.out)|exact HB.out)) hb);have NB127_137:=nb (by exact BK127.out) hg;have NB137_127:=ng (by exact BK127.out) hg;replace BK127:=am (bw (by exact BK127.out) hb);clear hb hbox hg;refine hK.out _ _ ⟨(bc BK127.out 0).trans rfl,(bc BK127.out 1).trans rfl,(bc BK127.out 2).trans rfl,(bc BK127.out 3).trans rfl⟩ (fun hHeld => ?_);clear hK K;refine norm_ (a':=?_) ?_ ?_
                          rotate_left
                          · show Act.put _ (some 4) _ = _
                            simp only [Act.put,q1,q2,q3,i64_w,i32_w]
                            rfl
                          exact norm_ (by first|(simp only [putAll,Act.put,q1,q2,q3];done)|(simp only [putAll,Act.put,q1,q2,q3];rfl)) (hJ5 (gb137) _ ⟨hHeld,(by exact BK127.out),(by exact BK137.out),GW137.out,GE137.out,NB127_137.out,NB137_127.out,(by repeat (first|(with_reducible first|exact HB.out|apply sa|apply sn|apply sd|refine sy ?_ (by assumption))|exact HB.out))⟩)
                      · skip
                        rintro gb137 w14 ⟨hS_,h0_,h1_,h2_,h3_,h4_,h5_,h6_⟩
                        have n0_ : Aside0 (w14.heap[gb127]? = some (.cells #[.int .i64 a0_0,.int .i64 a0_1,.int .i64 a0_2,.int .i64 a0_3] 23 (0,0))):=⟨h0_⟩;have n1_ : Aside0 (w14.heap[gb137]? = some (.cells #[.int .i64 0,.int .i64 0,.int .i64 0,.int .i64 0] 23 (0,0))):=⟨h1_⟩;have n2_ : Aside0 (w.heap.size ≤ gb137):=⟨h2_⟩;have n3_ : Aside0 (w.heap.size ≤ gb137):=⟨h3_⟩;have n4_ : Aside0 (gb127 ≠ gb137):=⟨h4_⟩;have n5_ : Aside0 (gb137 ≠ gb127):=⟨h5_⟩;have n6_ : Aside0 (Below w.heap.size w w14):=⟨h6_⟩;clear BK127;clear HB;clear h0_ h1_ h2_ h3_ h4_ h5_ h6_;have BK127:=n0_;have BK137:=n1_;have GW137:=n2_;have GE137:=n3_;have NB127_137:=n4_;have NB137_127:=n5_;have HB:=n6_;clear n0_ n1_ n2_ n3_ n4_ n5_ n6_;have hHeld : w14.cell? ⟨gb127,0,none⟩ = some (.int .i64 a0_0) ∧ w14.cell? ⟨gb127,1,none⟩ = some (.int .i64 a0_1) ∧ w14.cell? ⟨gb127,2,none⟩ = some (.int .i64 a0_2) ∧ w14.cell? ⟨gb127,3,none⟩ = some (.int .i64 a0_3):=hS_;refine norm_ (a':=?_) ?_ ?_
                        rotate_left
                        · simp only [putAll,Act.put,q1,q2,q3]
                          rfl
                        refine two_ (i:=1) (j:=4) (Ni:=some 6) (Nj:=some 3) #[true,true,true,false,false,true,false,false] #[true,false,true,false,true,true,false,false] rfl rfl rfl rfl (two_of HT_.out (by kernel_rfl)) (by decide) (by decide) (fun K hK => ?_) (fun K hK => ?_)
                        · skip
                          refine goes_ Try.func9 (by kernel_rfl) rfl #[.agg #[.int .i64 a0_0,.int .i64 a0_1,.int .i64 a0_2,.int .i64 a0_3]] (by rfl) rfl rfl (by (try simp only [List.map_toArray,List.map_cons,List.map_nil]);first|done|rfl|(simp only [List.length_drop,List.length_take];rfl)) ?_
                          with_reducible refine (paint_Faint.calls k a0_0 a0_1 a0_2 a0_3 t128 t129 t130 t131 _ A2.out).mono ?_
                          rintro e w15 ⟨rfl,hb⟩
                          refine ⟨_,rfl,?_⟩;replace BK127:=am (bw (by exact BK127.out) hb);replace BK137:=am (bw (by exact BK137.out) hb);replace HB:=am (ss (by repeat (first|(with_reducible first|exact HB.out|apply sa|apply sn|apply sd|refine sy ?_ (by assumption))|exact HB.out)) hb);(try clear hb);(try clear hb2);(try clear hk);(try clear hi);refine hK.out _ _ ⟨(bc BK127.out 0).trans rfl,(bc BK127.out 1).trans rfl,(bc BK127.out 2).trans rfl,(bc BK127.out 3).trans rfl⟩ (fun hHeld => ?_);clear hK K;refine norm_ (a':=?_) ?_ ?_
                          rotate_left
                          · show Act.put _ (some 6) _ = _
                            simp only [Act.put,q1,q2,q3,i64_w,i32_w]
                            rfl
                          exact norm_ (by first|(simp only [putAll,Act.put,q1,q2,q3];done)|(simp only [putAll,Act.put,q1,q2,q3];rfl)) (hJ1_5 (gb137) _ ⟨hHeld,(by exact BK127.out),(by exact BK137.out),GW137.out,GE137.out,NB127_137.out,NB137_127.out,(by repeat (first|(with_reducible first|exact HB.out|apply sa|apply sn|apply sd|refine sy ?_ (by assumption))|exact HB.out))⟩)
                        · skip
                          refine box_step ?hg (N:=3) ?hd (cs:=#[.int .i64 0,.int .i64 0,.int .i64 0,.int .i64 0]) (t:=23) ?hr ?_;(case hd => rfl);(case hg => rfl);(case hr => first|(go_simp;done)|(go_simp;rfl))
                          intro gb136 hg w15 hbox hb
                          have BK136:=am (hbox);have GW136:=am ((by rw [hg];exact (sz (by repeat (first|(with_reducible first|exact HB.out|apply sa|apply sn|apply sd|refine sy ?_ (by assumption))|exact HB.out))) : w.heap.size ≤ gb136));have GE136:=am ((by rw [hg];exact (sz (by repeat (first|(with_reducible first|exact HB.out|apply sa|apply sn|apply sd|refine sy ?_ (by assumption))|exact HB.out))) : w.heap.size ≤ gb136));replace HB:=am (ss (by repeat (first|(with_reducible first|exact HB.out|apply sa|apply sn|apply sd|refine sy ?_ (by assumption))|exact HB.out)) hb);have NB127_136:=nb (by exact BK127.out) hg;have NB136_127:=ng (by exact BK127.out) hg;replace BK127:=am (bw (by exact BK127.out) hb);have NB137_136:=nb (by exact BK137.out) hg;have NB136_137:=ng (by exact BK137.out) hg;replace BK137:=am (bw (by exact BK137.out) hb);clear hb hbox hg;refine hK.out _ _ ⟨(bc BK127.out 0).trans rfl,(bc BK127.out 1).trans rfl,(bc BK127.out 2).trans rfl,(bc BK127.out 3).trans rfl⟩ (fun hHeld => ?_);clear hK K;refine norm_ (a':=?_) ?_ ?_
                          rotate_left
                          · show Act.put _ (some 3) _ = _
                            simp only [Act.put,q1,q2,q3,i64_w,i32_w]
                            rfl
                          exact norm_ (by first|(simp only [putAll,Act.put,q1,q2,q3];done)|(simp only [putAll,Act.put,q1,q2,q3];rfl)) (hJ4_5 (gb136,gb137) _ ⟨hHeld,(by exact BK127.out),(by exact BK136.out),(by exact BK137.out),GW136.out,GE136.out,NB127_136.out,NB136_127.out,NB137_136.out,NB136_137.out,GW137.out,GE137.out,NB127_137.out,NB137_127.out,(by repeat (first|(with_reducible first|exact HB.out|apply sa|apply sn|apply sd|refine sy ?_ (by assumption))|exact HB.out))⟩)
                    · skip
                      rintro gb136 w14 ⟨hS_,h0_,h1_,h2_,h3_,h4_,h5_,h6_⟩
                      have n0_ : Aside0 (w14.heap[gb127]? = some (.cells #[.int .i64 a0_0,.int .i64 a0_1,.int .i64 a0_2,.int .i64 a0_3] 23 (0,0))):=⟨h0_⟩;have n1_ : Aside0 (w14.heap[gb136]? = some (.cells #[.int .i64 0,.int .i64 0,.int .i64 0,.int .i64 0] 23 (0,0))):=⟨h1_⟩;have n2_ : Aside0 (w.heap.size ≤ gb136):=⟨h2_⟩;have n3_ : Aside0 (w.heap.size ≤ gb136):=⟨h3_⟩;have n4_ : Aside0 (gb127 ≠ gb136):=⟨h4_⟩;have n5_ : Aside0 (gb136 ≠ gb127):=⟨h5_⟩;have n6_ : Aside0 (Below w.heap.size w w14):=⟨h6_⟩;clear BK127;clear HB;clear h0_ h1_ h2_ h3_ h4_ h5_ h6_;have BK127:=n0_;have BK136:=n1_;have GW136:=n2_;have GE136:=n3_;have NB127_136:=n4_;have NB136_127:=n5_;have HB:=n6_;clear n0_ n1_ n2_ n3_ n4_ n5_ n6_;have hHeld : w14.cell? ⟨gb127,0,none⟩ = some (.int .i64 a0_0) ∧ w14.cell? ⟨gb127,1,none⟩ = some (.int .i64 a0_1) ∧ w14.cell? ⟨gb127,2,none⟩ = some (.int .i64 a0_2) ∧ w14.cell? ⟨gb127,3,none⟩ = some (.int .i64 a0_3):=hS_;refine norm_ (a':=?_) ?_ ?_
                      rotate_left
                      · simp only [putAll,Act.put,q1,q2,q3]
                        rfl
                      refine two_ (i:=1) (j:=5) (Ni:=some 6) (Nj:=some 4) #[true,true,true,false,true,false,false,false] #[true,false,true,false,true,true,false,false] rfl rfl rfl rfl (two_of HT_.out (by kernel_rfl)) (by decide) (by decide) (fun K hK => ?_) (fun K hK => ?_)
                      · skip
                        refine goes_ Try.func9 (by kernel_rfl) rfl #[.agg #[.int .i64 a0_0,.int .i64 a0_1,.int .i64 a0_2,.int .i64 a0_3]] (by rfl) rfl rfl (by (try simp only [List.map_toArray,List.map_cons,List.map_nil]);first|done|rfl|(simp only [List.length_drop,List.length_take];rfl)) ?_
                        with_reducible refine (paint_Faint.calls k a0_0 a0_1 a0_2 a0_3 t128 t129 t130 t131 _ A2.out).mono ?_
                        rintro e w15 ⟨rfl,hb⟩
                        refine ⟨_,rfl,?_⟩;replace BK127:=am (bw (by exact BK127.out) hb);replace BK136:=am (bw (by exact BK136.out) hb);replace HB:=am (ss (by repeat (first|(with_reducible first|exact HB.out|apply sa|apply sn|apply sd|refine sy ?_ (by assumption))|exact HB.out)) hb);(try clear hb);(try clear hb2);(try clear hk);(try clear hi);refine hK.out _ _ ⟨(bc BK127.out 0).trans rfl,(bc BK127.out 1).trans rfl,(bc BK127.out 2).trans rfl,(bc BK127.out 3).trans rfl⟩ (fun hHeld => ?_);clear hK K;refine norm_ (a':=?_) ?_ ?_
                        rotate_left
                        · show Act.put _ (some 6) _ = _
                          simp only [Act.put,q1,q2,q3,i64_w,i32_w]
                          rfl
                        exact norm_ (by first|(simp only [putAll,Act.put,q1,q2,q3];done)|(simp only [putAll,Act.put,q1,q2,q3];rfl)) (hJ1_4 (gb136) _ ⟨hHeld,(by exact BK127.out),(by exact BK136.out),GW136.out,GE136.out,NB127_136.out,NB136_127.out,(by repeat (first|(with_reducible first|exact HB.out|apply sa|apply sn|apply sd|refine sy ?_ (by assumption))|exact HB.out))⟩)
                      · skip
                        refine box_step ?hg (N:=4) ?hd (cs:=#[.int .i64 0,.int .i64 0,.int .i64 0,.int .i64 0]) (t:=23) ?hr ?_;(case hd => rfl);(case hg => rfl);(case hr => first|(go_simp;done)|(go_simp;rfl))
                        intro gb137 hg w15 hbox hb
                        have BK137:=am (hbox);have GW137:=am ((by rw [hg];exact (sz (by repeat (first|(with_reducible first|exact HB.out|apply sa|apply sn|apply sd|refine sy ?_ (by assumption))|exact HB.out))) : w.heap.size ≤ gb137));have GE137:=am ((by rw [hg];exact (sz (by repeat (first|(with_reducible first|exact HB.out|apply sa|apply sn|apply sd|refine sy ?_ (by assumption))|exact HB.out))) : w.heap.size ≤ gb137));replace HB:=am (ss (by repeat (first|(with_reducible first|exact HB.out|apply sa|apply sn|apply sd|refine sy ?_ (by assumption))|exact HB.out)) hb);have NB127_137:=nb (by exact BK127.out) hg;have NB137_127:=ng (by exact BK127.out) hg;replace BK127:=am (bw (by exact BK127.out) hb);have NB136_137:=nb (by exact BK136.out) hg;have NB137_136:=ng (by exact BK136.out) hg;replace BK136:=am (bw (by exact BK136.out) hb);clear hb hbox hg;refine hK.out _ _ ⟨(bc BK127.out 0).trans rfl,(bc BK127.out 1).trans rfl,(bc BK127.out 2).trans rfl,(bc BK127.out 3).trans rfl⟩ (fun hHeld => ?_);clear hK K;refine norm_ (a':=?_) ?_ ?_
                        rotate_left
                        · show Act.put _ (some 4) _ = _
                          simp only [Act.put,q1,q2,q3,i64_w,i32_w]
                          rfl
                        exact norm_ (by first|(simp only [putAll,Act.put,q1,q2,q3];done)|(simp only [putAll,Act.put,q1,q2,q3];rfl)) (hJ4_5 (gb136,gb137) _ ⟨hHeld,(by exact BK127.out),(by exact BK136.out),(by exact BK137.out),GW136.out,GE136.out,NB127_136.out,NB136_127.out,NB137_136.out,NB136_137.out,GW137.out,GE137.out,NB127_137.out,NB137_127.out,(by repeat (first|(with_reducible first|exact HB.out|apply sa|apply sn|apply sd|refine sy ?_ (by assumption))|exact HB.out))⟩)
                  · skip
                    rintro _ w14 ⟨hS_,h0_,h1_⟩
                    have n0_ : Aside0 (w14.heap[gb127]? = some (.cells #[.int .i64 a0_0,.int .i64 a0_1,.int .i64 a0_2,.int .i64 a0_3] 23 (0,0))):=⟨h0_⟩;have n1_ : Aside0 (Below w.heap.size w w14):=⟨h1_⟩;clear BK127;clear HB;clear h0_ h1_;have BK127:=n0_;have HB:=n1_;clear n0_ n1_;have hHeld : w14.cell? ⟨gb127,0,none⟩ = some (.int .i64 a0_0) ∧ w14.cell? ⟨gb127,1,none⟩ = some (.int .i64 a0_1) ∧ w14.cell? ⟨gb127,2,none⟩ = some (.int .i64 a0_2) ∧ w14.cell? ⟨gb127,3,none⟩ = some (.int .i64 a0_3):=hS_;refine norm_ (a':=?_) ?_ ?_
                    rotate_left
                    · simp only [putAll,Act.put,q1,q2,q3]
                      rfl
                    refine three_ (i:=3) (j:=4) (k:=5) (Ni:=some 8) (Nj:=some 3) (Nk:=some 4) #[true,true,true,true,false,false,false,false] #[true,true,true,false,true,false,false,false] #[true,true,true,false,false,true,false,false] rfl rfl rfl rfl rfl rfl (three_of HT_.out (by kernel_rfl)) (by decide) (by decide) (by decide) (fun K hK => ?_) (fun K hK => ?_) (fun K hK => ?_)
                    · skip
                      refine goes_ Try.func10 (by kernel_rfl) rfl #[.agg #[.int .i64 a0_0,.int .i64 a0_1,.int .i64 a0_2,.int .i64 a0_3]] (by rfl) rfl rfl (by (try simp only [List.map_toArray,List.map_cons,List.map_nil]);first|done|rfl|(simp only [List.length_drop,List.length_take];rfl)) ?_
                      with_reducible refine (paint_Clear.calls k a0_0 a0_1 a0_2 a0_3 t132 t133 t134 t135 _ A3.out).mono ?_
                      rintro e w15 ⟨rfl,hb⟩
                      refine ⟨_,rfl,?_⟩;replace BK127:=am (bw (by exact BK127.out) hb);replace HB:=am (ss (by repeat (first|(with_reducible first|exact HB.out|apply sa|apply sn|apply sd|refine sx ?_ GE127.out)|exact HB.out)) hb);(try clear hb);(try clear hb2);(try clear hk);(try clear hi);refine hK.out _ _ ⟨(bc BK127.out 0).trans rfl,(bc BK127.out 1).trans rfl,(bc BK127.out 2).trans rfl,(bc BK127.out 3).trans rfl⟩ (fun hHeld => ?_);clear hK K;refine norm_ (a':=?_) ?_ ?_
                      rotate_left
                      · show Act.put _ (some 8) _ = _
                        simp only [Act.put,q1,q2,q3,i64_w,i32_w]
                        rfl
                      exact norm_ (by first|(simp only [putAll,Act.put,q1,q2,q3];done)|(simp only [putAll,Act.put,q1,q2,q3];rfl)) (hJ1_3 () _ ⟨hHeld,(by exact BK127.out),(by repeat (first|(with_reducible first|exact HB.out|apply sa|apply sn|apply sd|refine sx ?_ GE127.out)|exact HB.out))⟩)
                    · skip
                      refine box_step ?hg (N:=3) ?hd (cs:=#[.int .i64 0,.int .i64 0,.int .i64 0,.int .i64 0]) (t:=23) ?hr ?_;(case hd => rfl);(case hg => rfl);(case hr => first|(go_simp;done)|(go_simp;rfl))
                      intro gb136 hg w15 hbox hb
                      have BK136:=am (hbox);have GW136:=am ((by rw [hg];exact (sz (by repeat (first|(with_reducible first|exact HB.out|apply sa|apply sn|apply sd|refine sx ?_ GE127.out)|exact HB.out))) : w.heap.size ≤ gb136));have GE136:=am ((by rw [hg];exact (sz (by repeat (first|(with_reducible first|exact HB.out|apply sa|apply sn|apply sd|refine sx ?_ GE127.out)|exact HB.out))) : w.heap.size ≤ gb136));replace HB:=am (ss (by repeat (first|(with_reducible first|exact HB.out|apply sa|apply sn|apply sd|refine sx ?_ GE127.out)|exact HB.out)) hb);have NB127_136:=nb (by exact BK127.out) hg;have NB136_127:=ng (by exact BK127.out) hg;replace BK127:=am (bw (by exact BK127.out) hb);clear hb hbox hg;refine hK.out _ _ ⟨(bc BK127.out 0).trans rfl,(bc BK127.out 1).trans rfl,(bc BK127.out 2).trans rfl,(bc BK127.out 3).trans rfl⟩ (fun hHeld => ?_);clear hK K;refine norm_ (a':=?_) ?_ ?_
                      rotate_left
                      · show Act.put _ (some 3) _ = _
                        simp only [Act.put,q1,q2,q3,i64_w,i32_w]
                        rfl
                      exact norm_ (by first|(simp only [putAll,Act.put,q1,q2,q3];done)|(simp only [putAll,Act.put,q1,q2,q3];rfl)) (hJ1_4 (gb136) _ ⟨hHeld,(by exact BK127.out),(by exact BK136.out),GW136.out,GE136.out,NB127_136.out,NB136_127.out,(by repeat (first|(with_reducible first|exact HB.out|apply sa|apply sn|apply sd|refine sy ?_ (by assumption))|exact HB.out))⟩)
                    · skip
                      refine box_step ?hg (N:=4) ?hd (cs:=#[.int .i64 0,.int .i64 0,.int .i64 0,.int .i64 0]) (t:=23) ?hr ?_;(case hd => rfl);(case hg => rfl);(case hr => first|(go_simp;done)|(go_simp;rfl))
                      intro gb137 hg w15 hbox hb
                      have BK137:=am (hbox);have GW137:=am ((by rw [hg];exact (sz (by repeat (first|(with_reducible first|exact HB.out|apply sa|apply sn|apply sd|refine sx ?_ GE127.out)|exact HB.out))) : w.heap.size ≤ gb137));have GE137:=am ((by rw [hg];exact (sz (by repeat (first|(with_reducible first|exact HB.out|apply sa|apply sn|apply sd|refine sx ?_ GE127.out)|exact HB.out))) : w.heap.size ≤ gb137));replace HB:=am (ss (by repeat (first|(with_reducible first|exact HB.out|apply sa|apply sn|apply sd|refine sx ?_ GE127.out)|exact HB.out)) hb);have NB127_137:=nb (by exact BK127.out) hg;have NB137_127:=ng (by exact BK127.out) hg;replace BK127:=am (bw (by exact BK127.out) hb);clear hb hbox hg;refine hK.out _ _ ⟨(bc BK127.out 0).trans rfl,(bc BK127.out 1).trans rfl,(bc BK127.out 2).trans rfl,(bc BK127.out 3).trans rfl⟩ (fun hHeld => ?_);clear hK K;refine norm_ (a':=?_) ?_ ?_
                      rotate_left
                      · show Act.put _ (some 4) _ = _
                        simp only [Act.put,q1,q2,q3,i64_w,i32_w]
                        rfl
                      exact norm_ (by first|(simp only [putAll,Act.put,q1,q2,q3];done)|(simp only [putAll,Act.put,q1,q2,q3];rfl)) (hJ1_5 (gb137) _ ⟨hHeld,(by exact BK127.out),(by exact BK137.out),GW137.out,GE137.out,NB127_137.out,NB137_127.out,(by repeat (first|(with_reducible first|exact HB.out|apply sa|apply sn|apply sd|refine sy ?_ (by assumption))|exact HB.out))⟩)
                · skip
                  rintro ⟨gb136,gb137⟩ w15 ⟨hS_,h0_,h1_,h2_,h3_,h4_,h5_,h6_,h7_,h8_,h9_,h10_,h11_,h12_,h13_⟩
                  have n0_ : Aside0 (w15.heap[gb127]? = some (.cells #[.int .i64 a0_0,.int .i64 a0_1,.int .i64 a0_2,.int .i64 a0_3] 23 (0,0))):=⟨h0_⟩;have n1_ : Aside0 (w15.heap[gb136]? = some (.cells #[.int .i64 0,.int .i64 0,.int .i64 0,.int .i64 0] 23 (0,0))):=⟨h1_⟩;have n2_ : Aside0 (w15.heap[gb137]? = some (.cells #[.int .i64 0,.int .i64 0,.int .i64 0,.int .i64 0] 23 (0,0))):=⟨h2_⟩;have n3_ : Aside0 (w.heap.size ≤ gb136):=⟨h3_⟩;have n4_ : Aside0 (w.heap.size ≤ gb136):=⟨h4_⟩;have n5_ : Aside0 (gb127 ≠ gb136):=⟨h5_⟩;have n6_ : Aside0 (gb136 ≠ gb127):=⟨h6_⟩;have n7_ : Aside0 (gb137 ≠ gb136):=⟨h7_⟩;have n8_ : Aside0 (gb136 ≠ gb137):=⟨h8_⟩;have n9_ : Aside0 (w.heap.size ≤ gb137):=⟨h9_⟩;have n10_ : Aside0 (w.heap.size ≤ gb137):=⟨h10_⟩;have n11_ : Aside0 (gb127 ≠ gb137):=⟨h11_⟩;have n12_ : Aside0 (gb137 ≠ gb127):=⟨h12_⟩;have n13_ : Aside0 (Below w.heap.size w w15):=⟨h13_⟩;clear BK127;clear HB;clear h0_ h1_ h2_ h3_ h4_ h5_ h6_ h7_ h8_ h9_ h10_ h11_ h12_ h13_;have BK127:=n0_;have BK136:=n1_;have BK137:=n2_;have GW136:=n3_;have GE136:=n4_;have NB127_136:=n5_;have NB136_127:=n6_;have NB137_136:=n7_;have NB136_137:=n8_;have GW137:=n9_;have GE137:=n10_;have NB127_137:=n11_;have NB137_127:=n12_;have HB:=n13_;clear n0_ n1_ n2_ n3_ n4_ n5_ n6_ n7_ n8_ n9_ n10_ n11_ n12_ n13_;have hHeld : w15.cell? ⟨gb127,0,none⟩ = some (.int .i64 a0_0) ∧ w15.cell? ⟨gb127,1,none⟩ = some (.int .i64 a0_1) ∧ w15.cell? ⟨gb127,2,none⟩ = some (.int .i64 a0_2) ∧ w15.cell? ⟨gb127,3,none⟩ = some (.int .i64 a0_3):=hS_;refine norm_ (a':=?_) ?_ ?_
                  rotate_left
                  · simp only [putAll,Act.put,q1,q2,q3]
                    rfl
                  refine one_ (i:=1) (N:=some 6) #[true,true,true,false,true,true,false,false] rfl rfl (one_of HT_.out (by kernel_rfl)) (by decide) (fun K hK => ?_);refine goes_ Try.func9 (by kernel_rfl) rfl #[.agg #[.int .i64 a0_0,.int .i64 a0_1,.int .i64 a0_2,.int .i64 a0_3]] (by rfl) rfl rfl (by (try simp only [List.map_toArray,List.map_cons,List.map_nil]);first|done|rfl|(simp only [List.length_drop,List.length_take];rfl)) ?_
                  with_reducible refine (paint_Faint.calls k a0_0 a0_1 a0_2 a0_3 t128 t129 t130 t131 _ A2.out).mono ?_
                  rintro e w16 ⟨rfl,hb⟩
                  refine ⟨_,rfl,?_⟩;replace BK127:=am (bw (by exact BK127.out) hb);replace BK136:=am (bw (by exact BK136.out) hb);replace BK137:=am (bw (by exact BK137.out) hb);replace HB:=am (ss (by repeat (first|(with_reducible first|exact HB.out|apply sa|apply sn|apply sd|refine sy ?_ (by assumption))|exact HB.out)) hb);(try clear hb);(try clear hb2);(try clear hk);(try clear hi);refine hK.out _ _ ⟨(bc BK127.out 0).trans rfl,(bc BK127.out 1).trans rfl,(bc BK127.out 2).trans rfl,(bc BK127.out 3).trans rfl⟩ (fun hHeld => ?_);clear hK K;refine norm_ (a':=?_) ?_ ?_
                  rotate_left
                  · show Act.put _ (some 6) _ = _
                    simp only [Act.put,q1,q2,q3,i64_w,i32_w]
                    rfl
                  exact norm_ (by first|(simp only [putAll,Act.put,q1,q2,q3];done)|(simp only [putAll,Act.put,q1,q2,q3];rfl)) (hJ1_4_5 (gb136,gb137) _ ⟨hHeld,(by exact BK127.out),(by exact BK136.out),(by exact BK137.out),GW136.out,GE136.out,NB127_136.out,NB136_127.out,NB137_136.out,NB136_137.out,GW137.out,GE137.out,NB127_137.out,NB137_127.out,(by repeat (first|(with_reducible first|exact HB.out|apply sa|apply sn|apply sd|refine sy ?_ (by assumption))|exact HB.out))⟩)
              · skip
                rintro gb137 w15 ⟨hS_,h0_,h1_,h2_,h3_,h4_,h5_,h6_⟩
                have n0_ : Aside0 (w15.heap[gb127]? = some (.cells #[.int .i64 a0_0,.int .i64 a0_1,.int .i64 a0_2,.int .i64 a0_3] 23 (0,0))):=⟨h0_⟩;have n1_ : Aside0 (w15.heap[gb137]? = some (.cells #[.int .i64 0,.int .i64 0,.int .i64 0,.int .i64 0] 23 (0,0))):=⟨h1_⟩;have n2_ : Aside0 (w.heap.size ≤ gb137):=⟨h2_⟩;have n3_ : Aside0 (w.heap.size ≤ gb137):=⟨h3_⟩;have n4_ : Aside0 (gb127 ≠ gb137):=⟨h4_⟩;have n5_ : Aside0 (gb137 ≠ gb127):=⟨h5_⟩;have n6_ : Aside0 (Below w.heap.size w w15):=⟨h6_⟩;clear BK127;clear HB;clear h0_ h1_ h2_ h3_ h4_ h5_ h6_;have BK127:=n0_;have BK137:=n1_;have GW137:=n2_;have GE137:=n3_;have NB127_137:=n4_;have NB137_127:=n5_;have HB:=n6_;clear n0_ n1_ n2_ n3_ n4_ n5_ n6_;have hHeld : w15.cell? ⟨gb127,0,none⟩ = some (.int .i64 a0_0) ∧ w15.cell? ⟨gb127,1,none⟩ = some (.int .i64 a0_1) ∧ w15.cell? ⟨gb127,2,none⟩ = some (.int .i64 a0_2) ∧ w15.cell? ⟨gb127,3,none⟩ = some (.int .i64 a0_3):=hS_;refine norm_ (a':=?_) ?_ ?_
                rotate_left
                · simp only [putAll,Act.put,q1,q2,q3]
                  rfl
                refine two_ (i:=3) (j:=4) (Ni:=some 8) (Nj:=some 3) #[true,true,true,true,false,true,false,false] #[true,true,true,false,true,true,false,false] rfl rfl rfl rfl (two_of HT_.out (by kernel_rfl)) (by decide) (by decide) (fun K hK => ?_) (fun K hK => ?_)
                · skip
                  refine goes_ Try.func10 (by kernel_rfl) rfl #[.agg #[.int .i64 a0_0,.int .i64 a0_1,.int .i64 a0_2,.int .i64 a0_3]] (by rfl) rfl rfl (by (try simp only [List.map_toArray,List.map_cons,List.map_nil]);first|done|rfl|(simp only [List.length_drop,List.length_take];rfl)) ?_
                  with_reducible refine (paint_Clear.calls k a0_0 a0_1 a0_2 a0_3 t132 t133 t134 t135 _ A3.out).mono ?_
                  rintro e w16 ⟨rfl,hb⟩
                  refine ⟨_,rfl,?_⟩;replace BK127:=am (bw (by exact BK127.out) hb);replace BK137:=am (bw (by exact BK137.out) hb);replace HB:=am (ss (by repeat (first|(with_reducible first|exact HB.out|apply sa|apply sn|apply sd|refine sy ?_ (by assumption))|exact HB.out)) hb);(try clear hb);(try clear hb2);(try clear hk);(try clear hi);refine hK.out _ _ ⟨(bc BK127.out 0).trans rfl,(bc BK127.out 1).trans rfl,(bc BK127.out 2).trans rfl,(bc BK127.out 3).trans rfl⟩ (fun hHeld => ?_);clear hK K;refine norm_ (a':=?_) ?_ ?_
                  rotate_left
                  · show Act.put _ (some 8) _ = _
                    simp only [Act.put,q1,q2,q3,i64_w,i32_w]
                    rfl
                  exact norm_ (by first|(simp only [putAll,Act.put,q1,q2,q3];done)|(simp only [putAll,Act.put,q1,q2,q3];rfl)) (hJ1_3_5 (gb137) _ ⟨hHeld,(by exact BK127.out),(by exact BK137.out),GW137.out,GE137.out,NB127_137.out,NB137_127.out,(by repeat (first|(with_reducible first|exact HB.out|apply sa|apply sn|apply sd|refine sy ?_ (by assumption))|exact HB.out))⟩)
                · skip
                  refine box_step ?hg (N:=3) ?hd (cs:=#[.int .i64 0,.int .i64 0,.int .i64 0,.int .i64 0]) (t:=23) ?hr ?_;(case hd => rfl);(case hg => rfl);(case hr => first|(go_simp;done)|(go_simp;rfl))
                  intro gb136 hg w16 hbox hb
                  have BK136:=am (hbox);have GW136:=am ((by rw [hg];exact (sz (by repeat (first|(with_reducible first|exact HB.out|apply sa|apply sn|apply sd|refine sy ?_ (by assumption))|exact HB.out))) : w.heap.size ≤ gb136));have GE136:=am ((by rw [hg];exact (sz (by repeat (first|(with_reducible first|exact HB.out|apply sa|apply sn|apply sd|refine sy ?_ (by assumption))|exact HB.out))) : w.heap.size ≤ gb136));replace HB:=am (ss (by repeat (first|(with_reducible first|exact HB.out|apply sa|apply sn|apply sd|refine sy ?_ (by assumption))|exact HB.out)) hb);have NB127_136:=nb (by exact BK127.out) hg;have NB136_127:=ng (by exact BK127.out) hg;replace BK127:=am (bw (by exact BK127.out) hb);have NB137_136:=nb (by exact BK137.out) hg;have NB136_137:=ng (by exact BK137.out) hg;replace BK137:=am (bw (by exact BK137.out) hb);clear hb hbox hg;refine hK.out _ _ ⟨(bc BK127.out 0).trans rfl,(bc BK127.out 1).trans rfl,(bc BK127.out 2).trans rfl,(bc BK127.out 3).trans rfl⟩ (fun hHeld => ?_);clear hK K;refine norm_ (a':=?_) ?_ ?_
                  rotate_left
                  · show Act.put _ (some 3) _ = _
                    simp only [Act.put,q1,q2,q3,i64_w,i32_w]
                    rfl
                  exact norm_ (by first|(simp only [putAll,Act.put,q1,q2,q3];done)|(simp only [putAll,Act.put,q1,q2,q3];rfl)) (hJ1_4_5 (gb136,gb137) _ ⟨hHeld,(by exact BK127.out),(by exact BK136.out),(by exact BK137.out),GW136.out,GE136.out,NB127_136.out,NB136_127.out,NB137_136.out,NB136_137.out,GW137.out,GE137.out,NB127_137.out,NB137_127.out,(by repeat (first|(with_reducible first|exact HB.out|apply sa|apply sn|apply sd|refine sy ?_ (by assumption))|exact HB.out))⟩)
            · skip
              rintro gb136 w15 ⟨hS_,h0_,h1_,h2_,h3_,h4_,h5_,h6_⟩
              have n0_ : Aside0 (w15.heap[gb127]? = some (.cells #[.int .i64 a0_0,.int .i64 a0_1,.int .i64 a0_2,.int .i64 a0_3] 23 (0,0))):=⟨h0_⟩;have n1_ : Aside0 (w15.heap[gb136]? = some (.cells #[.int .i64 0,.int .i64 0,.int .i64 0,.int .i64 0] 23 (0,0))):=⟨h1_⟩;have n2_ : Aside0 (w.heap.size ≤ gb136):=⟨h2_⟩;have n3_ : Aside0 (w.heap.size ≤ gb136):=⟨h3_⟩;have n4_ : Aside0 (gb127 ≠ gb136):=⟨h4_⟩;have n5_ : Aside0 (gb136 ≠ gb127):=⟨h5_⟩;have n6_ : Aside0 (Below w.heap.size w w15):=⟨h6_⟩;clear BK127;clear HB;clear h0_ h1_ h2_ h3_ h4_ h5_ h6_;have BK127:=n0_;have BK136:=n1_;have GW136:=n2_;have GE136:=n3_;have NB127_136:=n4_;have NB136_127:=n5_;have HB:=n6_;clear n0_ n1_ n2_ n3_ n4_ n5_ n6_;have hHeld : w15.cell? ⟨gb127,0,none⟩ = some (.int .i64 a0_0) ∧ w15.cell? ⟨gb127,1,none⟩ = some (.int .i64 a0_1) ∧ w15.cell? ⟨gb127,2,none⟩ = some (.int .i64 a0_2) ∧ w15.cell? ⟨gb127,3,none⟩ = some (.int .i64 a0_3):=hS_;refine norm_ (a':=?_) ?_ ?_
              rotate_left
              · simp only [putAll,Act.put,q1,q2,q3]
                rfl
              refine two_ (i:=3) (j:=5) (Ni:=some 8) (Nj:=some 4) #[true,true,true,true,true,false,false,false] #[true,true,true,false,true,true,false,false] rfl rfl rfl rfl (two_of HT_.out (by kernel_rfl)) (by decide) (by decide) (fun K hK => ?_) (fun K hK => ?_)
              · skip
                refine goes_ Try.func10 (by kernel_rfl) rfl #[.agg #[.int .i64 a0_0,.int .i64 a0_1,.int .i64 a0_2,.int .i64 a0_3]] (by rfl) rfl rfl (by (try simp only [List.map_toArray,List.map_cons,List.map_nil]);first|done|rfl|(simp only [List.length_drop,List.length_take];rfl)) ?_
                with_reducible refine (paint_Clear.calls k a0_0 a0_1 a0_2 a0_3 t132 t133 t134 t135 _ A3.out).mono ?_
                rintro e w16 ⟨rfl,hb⟩
                refine ⟨_,rfl,?_⟩;replace BK127:=am (bw (by exact BK127.out) hb);replace BK136:=am (bw (by exact BK136.out) hb);replace HB:=am (ss (by repeat (first|(with_reducible first|exact HB.out|apply sa|apply sn|apply sd|refine sy ?_ (by assumption))|exact HB.out)) hb);(try clear hb);(try clear hb2);(try clear hk);(try clear hi);refine hK.out _ _ ⟨(bc BK127.out 0).trans rfl,(bc BK127.out 1).trans rfl,(bc BK127.out 2).trans rfl,(bc BK127.out 3).trans rfl⟩ (fun hHeld => ?_);clear hK K;refine norm_ (a':=?_) ?_ ?_
                rotate_left
                · show Act.put _ (some 8) _ = _
                  simp only [Act.put,q1,q2,q3,i64_w,i32_w]
                  rfl
                exact norm_ (by first|(simp only [putAll,Act.put,q1,q2,q3];done)|(simp only [putAll,Act.put,q1,q2,q3];rfl)) (hJ1_3_4 (gb136) _ ⟨hHeld,(by exact BK127.out),(by exact BK136.out),GW136.out,GE136.out,NB127_136.out,NB136_127.out,(by repeat (first|(with_reducible first|exact HB.out|apply sa|apply sn|apply sd|refine sy ?_ (by assumption))|exact HB.out))⟩)
              · skip
                refine box_step ?hg (N:=4) ?hd (cs:=#[.int .i64 0,.int .i64 0,.int .i64 0,.int .i64 0]) (t:=23) ?hr ?_;(case hd => rfl);(case hg => rfl);(case hr => first|(go_simp;done)|(go_simp;rfl))
                intro gb137 hg w16 hbox hb
                have BK137:=am (hbox);have GW137:=am ((by rw [hg];exact (sz (by repeat (first|(with_reducible first|exact HB.out|apply sa|apply sn|apply sd|refine sy ?_ (by assumption))|exact HB.out))) : w.heap.size ≤ gb137));have GE137:=am ((by rw [hg];exact (sz (by repeat (first|(with_reducible first|exact HB.out|apply sa|apply sn|apply sd|refine sy ?_ (by assumption))|exact HB.out))) : w.heap.size ≤ gb137));replace HB:=am (ss (by repeat (first|(with_reducible first|exact HB.out|apply sa|apply sn|apply sd|refine sy ?_ (by assumption))|exact HB.out)) hb);have NB127_137:=nb (by exact BK127.out) hg;have NB137_127:=ng (by exact BK127.out) hg;replace BK127:=am (bw (by exact BK127.out) hb);have NB136_137:=nb (by exact BK136.out) hg;have NB137_136:=ng (by exact BK136.out) hg;replace BK136:=am (bw (by exact BK136.out) hb);clear hb hbox hg;refine hK.out _ _ ⟨(bc BK127.out 0).trans rfl,(bc BK127.out 1).trans rfl,(bc BK127.out 2).trans rfl,(bc BK127.out 3).trans rfl⟩ (fun hHeld => ?_);clear hK K;refine norm_ (a':=?_) ?_ ?_
                rotate_left
                · show Act.put _ (some 4) _ = _
                  simp only [Act.put,q1,q2,q3,i64_w,i32_w]
                  rfl
                exact norm_ (by first|(simp only [putAll,Act.put,q1,q2,q3];done)|(simp only [putAll,Act.put,q1,q2,q3];rfl)) (hJ1_4_5 (gb136,gb137) _ ⟨hHeld,(by exact BK127.out),(by exact BK136.out),(by exact BK137.out),GW136.out,GE136.out,NB127_136.out,NB136_127.out,NB137_136.out,NB136_137.out,GW137.out,GE137.out,NB127_137.out,NB137_127.out,(by repeat (first|(with_reducible first|exact HB.out|apply sa|apply sn|apply sd|refine sy ?_ (by assumption))|exact HB.out))⟩)
          · skip
            rintro _ w15 ⟨hS_,h0_,h1_⟩
            have n0_ : Aside0 (w15.heap[gb127]? = some (.cells #[.int .i64 a0_0,.int .i64 a0_1,.int .i64 a0_2,.int .i64 a0_3] 23 (0,0))):=⟨h0_⟩;have n1_ : Aside0 (Below w.heap.size w w15):=⟨h1_⟩;clear BK127;clear HB;clear h0_ h1_;have BK127:=n0_;have HB:=n1_;clear n0_ n1_;have hHeld : w15.cell? ⟨gb127,0,none⟩ = some (.int .i64 a0_0) ∧ w15.cell? ⟨gb127,1,none⟩ = some (.int .i64 a0_1) ∧ w15.cell? ⟨gb127,2,none⟩ = some (.int .i64 a0_2) ∧ w15.cell? ⟨gb127,3,none⟩ = some (.int .i64 a0_3):=hS_;refine norm_ (a':=?_) ?_ ?_
            rotate_left
            · simp only [putAll,Act.put,q1,q2,q3]
              rfl
            refine two_ (i:=4) (j:=5) (Ni:=some 3) (Nj:=some 4) #[true,true,true,true,true,false,false,false] #[true,true,true,true,false,true,false,false] rfl rfl rfl rfl (two_of HT_.out (by kernel_rfl)) (by decide) (by decide) (fun K hK => ?_) (fun K hK => ?_)
            · skip
              refine box_step ?hg (N:=3) ?hd (cs:=#[.int .i64 0,.int .i64 0,.int .i64 0,.int .i64 0]) (t:=23) ?hr ?_;(case hd => rfl);(case hg => rfl);(case hr => first|(go_simp;done)|(go_simp;rfl))
              intro gb136 hg w16 hbox hb
              have BK136:=am (hbox);have GW136:=am ((by rw [hg];exact (sz (by repeat (first|(with_reducible first|exact HB.out|apply sa|apply sn|apply sd|refine sx ?_ GE127.out)|exact HB.out))) : w.heap.size ≤ gb136));have GE136:=am ((by rw [hg];exact (sz (by repeat (first|(with_reducible first|exact HB.out|apply sa|apply sn|apply sd|refine sx ?_ GE127.out)|exact HB.out))) : w.heap.size ≤ gb136));replace HB:=am (ss (by repeat (first|(with_reducible first|exact HB.out|apply sa|apply sn|apply sd|refine sx ?_ GE127.out)|exact HB.out)) hb);have NB127_136:=nb (by exact BK127.out) hg;have NB136_127:=ng (by exact BK127.out) hg;replace BK127:=am (bw (by exact BK127.out) hb);clear hb hbox hg;refine hK.out _ _ ⟨(bc BK127.out 0).trans rfl,(bc BK127.out 1).trans rfl,(bc BK127.out 2).trans rfl,(bc BK127.out 3).trans rfl⟩ (fun hHeld => ?_);clear hK K;refine norm_ (a':=?_) ?_ ?_
              rotate_left
              · show Act.put _ (some 3) _ = _
                simp only [Act.put,q1,q2,q3,i64_w,i32_w]
                rfl
              exact norm_ (by first|(simp only [putAll,Act.put,q1,q2,q3];done)|(simp only [putAll,Act.put,q1,q2,q3];rfl)) (hJ1_3_4 (gb136) _ ⟨hHeld,(by exact BK127.out),(by exact BK136.out),GW136.out,GE136.out,NB127_136.out,NB136_127.out,(by repeat (first|(with_reducible first|exact HB.out|apply sa|apply sn|apply sd|refine sy ?_ (by assumption))|exact HB.out))⟩)
            · skip
              refine box_step ?hg (N:=4) ?hd (cs:=#[.int .i64 0,.int .i64 0,.int .i64 0,.int .i64 0]) (t:=23) ?hr ?_;(case hd => rfl);(case hg => rfl);(case hr => first|(go_simp;done)|(go_simp;rfl))
              intro gb137 hg w16 hbox hb
              have BK137:=am (hbox);have GW137:=am ((by rw [hg];exact (sz (by repeat (first|(with_reducible first|exact HB.out|apply sa|apply sn|apply sd|refine sx ?_ GE127.out)|exact HB.out))) : w.heap.size ≤ gb137));have GE137:=am ((by rw [hg];exact (sz (by repeat (first|(with_reducible first|exact HB.out|apply sa|apply sn|apply sd|refine sx ?_ GE127.out)|exact HB.out))) : w.heap.size ≤ gb137));replace HB:=am (ss (by repeat (first|(with_reducible first|exact HB.out|apply sa|apply sn|apply sd|refine sx ?_ GE127.out)|exact HB.out)) hb);have NB127_137:=nb (by exact BK127.out) hg;have NB137_127:=ng (by exact BK127.out) hg;replace BK127:=am (bw (by exact BK127.out) hb);clear hb hbox hg;refine hK.out _ _ ⟨(bc BK127.out 0).trans rfl,(bc BK127.out 1).trans rfl,(bc BK127.out 2).trans rfl,(bc BK127.out 3).trans rfl⟩ (fun hHeld => ?_);clear hK K;refine norm_ (a':=?_) ?_ ?_
              rotate_left
              · show Act.put _ (some 4) _ = _
                simp only [Act.put,q1,q2,q3,i64_w,i32_w]
                rfl
              exact norm_ (by first|(simp only [putAll,Act.put,q1,q2,q3];done)|(simp only [putAll,Act.put,q1,q2,q3];rfl)) (hJ1_3_5 (gb137) _ ⟨hHeld,(by exact BK127.out),(by exact BK137.out),GW137.out,GE137.out,NB127_137.out,NB137_127.out,(by repeat (first|(with_reducible first|exact HB.out|apply sa|apply sn|apply sd|refine sy ?_ (by assumption))|exact HB.out))⟩)
        · skip
          rintro ⟨gb136,gb137⟩ w16 ⟨hS_,h0_,h1_,h2_,h3_,h4_,h5_,h6_,h7_,h8_,h9_,h10_,h11_,h12_,h13_⟩
          have n0_ : Aside0 (w16.heap[gb127]? = some (.cells #[.int .i64 a0_0,.int .i64 a0_1,.int .i64 a0_2,.int .i64 a0_3] 23 (0,0))):=⟨h0_⟩;have n1_ : Aside0 (w16.heap[gb136]? = some (.cells #[.int .i64 0,.int .i64 0,.int .i64 0,.int .i64 0] 23 (0,0))):=⟨h1_⟩;have n2_ : Aside0 (w16.heap[gb137]? = some (.cells #[.int .i64 0,.int .i64 0,.int .i64 0,.int .i64 0] 23 (0,0))):=⟨h2_⟩;have n3_ : Aside0 (w.heap.size ≤ gb136):=⟨h3_⟩;have n4_ : Aside0 (w.heap.size ≤ gb136):=⟨h4_⟩;have n5_ : Aside0 (gb127 ≠ gb136):=⟨h5_⟩;have n6_ : Aside0 (gb136 ≠ gb127):=⟨h6_⟩;have n7_ : Aside0 (gb137 ≠ gb136):=⟨h7_⟩;have n8_ : Aside0 (gb136 ≠ gb137):=⟨h8_⟩;have n9_ : Aside0 (w.heap.size ≤ gb137):=⟨h9_⟩;have n10_ : Aside0 (w.heap.size ≤ gb137):=⟨h10_⟩;have n11_ : Aside0 (gb127 ≠ gb137):=⟨h11_⟩;have n12_ : Aside0 (gb137 ≠ gb127):=⟨h12_⟩;have n13_ : Aside0 (Below w.heap.size w w16):=⟨h13_⟩;clear BK127;clear HB;clear h0_ h1_ h2_ h3_ h4_ h5_ h6_ h7_ h8_ h9_ h10_ h11_ h12_ h13_;have BK127:=n0_;have BK136:=n1_;have BK137:=n2_;have GW136:=n3_;have GE136:=n4_;have NB127_136:=n5_;have NB136_127:=n6_;have NB137_136:=n7_;have NB136_137:=n8_;have GW137:=n9_;have GE137:=n10_;have NB127_137:=n11_;have NB137_127:=n12_;have HB:=n13_;clear n0_ n1_ n2_ n3_ n4_ n5_ n6_ n7_ n8_ n9_ n10_ n11_ n12_ n13_;have hHeld : w16.cell? ⟨gb127,0,none⟩ = some (.int .i64 a0_0) ∧ w16.cell? ⟨gb127,1,none⟩ = some (.int .i64 a0_1) ∧ w16.cell? ⟨gb127,2,none⟩ = some (.int .i64 a0_2) ∧ w16.cell? ⟨gb127,3,none⟩ = some (.int .i64 a0_3):=hS_;refine norm_ (a':=?_) ?_ ?_
          rotate_left
          · simp only [putAll,Act.put,q1,q2,q3]
            rfl
          refine one_ (i:=3) (N:=some 8) #[true,true,true,true,true,true,false,false] rfl rfl (one_of HT_.out (by kernel_rfl)) (by decide) (fun K hK => ?_);refine goes_ Try.func10 (by kernel_rfl) rfl #[.agg #[.int .i64 a0_0,.int .i64 a0_1,.int .i64 a0_2,.int .i64 a0_3]] (by rfl) rfl rfl (by (try simp only [List.map_toArray,List.map_cons,List.map_nil]);first|done|rfl|(simp only [List.length_drop,List.length_take];rfl)) ?_
          with_reducible refine (paint_Clear.calls k a0_0 a0_1 a0_2 a0_3 t132 t133 t134 t135 _ A3.out).mono ?_
          rintro e w17 ⟨rfl,hb⟩
          refine ⟨_,rfl,?_⟩;replace BK127:=am (bw (by exact BK127.out) hb);replace BK136:=am (bw (by exact BK136.out) hb);replace BK137:=am (bw (by exact BK137.out) hb);replace HB:=am (ss (by repeat (first|(with_reducible first|exact HB.out|apply sa|apply sn|apply sd|refine sy ?_ (by assumption))|exact HB.out)) hb);(try clear hb);(try clear hb2);(try clear hk);(try clear hi);refine hK.out _ _ ⟨(bc BK127.out 0).trans rfl,(bc BK127.out 1).trans rfl,(bc BK127.out 2).trans rfl,(bc BK127.out 3).trans rfl⟩ (fun hHeld => ?_);clear hK K;refine norm_ (a':=?_) ?_ ?_
          rotate_left
          · show Act.put _ (some 8) _ = _
            simp only [Act.put,q1,q2,q3,i64_w,i32_w]
            rfl
          exact norm_ (by first|(simp only [putAll,Act.put,q1,q2,q3];done)|(simp only [putAll,Act.put,q1,q2,q3];rfl)) (hJ1_3_4_5 (gb136,gb137) _ ⟨hHeld,(by exact BK127.out),(by exact BK136.out),(by exact BK137.out),GW136.out,GE136.out,NB127_136.out,NB136_127.out,NB137_136.out,NB136_137.out,GW137.out,GE137.out,NB127_137.out,NB137_127.out,(by repeat (first|(with_reducible first|exact HB.out|apply sa|apply sn|apply sd|refine sy ?_ (by assumption))|exact HB.out))⟩)
      · skip
        rintro gb137 w16 ⟨hS_,h0_,h1_,h2_,h3_,h4_,h5_,h6_⟩
        have n0_ : Aside0 (w16.heap[gb127]? = some (.cells #[.int .i64 a0_0,.int .i64 a0_1,.int .i64 a0_2,.int .i64 a0_3] 23 (0,0))):=⟨h0_⟩;have n1_ : Aside0 (w16.heap[gb137]? = some (.cells #[.int .i64 0,.int .i64 0,.int .i64 0,.int .i64 0] 23 (0,0))):=⟨h1_⟩;have n2_ : Aside0 (w.heap.size ≤ gb137):=⟨h2_⟩;have n3_ : Aside0 (w.heap.size ≤ gb137):=⟨h3_⟩;have n4_ : Aside0 (gb127 ≠ gb137):=⟨h4_⟩;have n5_ : Aside0 (gb137 ≠ gb127):=⟨h5_⟩;have n6_ : Aside0 (Below w.heap.size w w16):=⟨h6_⟩;clear BK127;clear HB;clear h0_ h1_ h2_ h3_ h4_ h5_ h6_;have BK127:=n0_;have BK137:=n1_;have GW137:=n2_;have GE137:=n3_;have NB127_137:=n4_;have NB137_127:=n5_;have HB:=n6_;clear n0_ n1_ n2_ n3_ n4_ n5_ n6_;have hHeld : w16.cell? ⟨gb127,0,none⟩ = some (.int .i64 a0_0) ∧ w16.cell? ⟨gb127,1,none⟩ = some (.int .i64 a0_1) ∧ w16.cell? ⟨gb127,2,none⟩ = some (.int .i64 a0_2) ∧ w16.cell? ⟨gb127,3,none⟩ = some (.int .i64 a0_3):=hS_;refine norm_ (a':=?_) ?_ ?_
        rotate_left
        · simp only [putAll,Act.put,q1,q2,q3]
          rfl
        refine one_ (i:=4) (N:=some 3) #[true,true,true,true,true,true,false,false] rfl rfl (one_of HT_.out (by kernel_rfl)) (by decide) (fun K hK => ?_);refine box_step ?hg (N:=3) ?hd (cs:=#[.int .i64 0,.int .i64 0,.int .i64 0,.int .i64 0]) (t:=23) ?hr ?_;(case hd => rfl);(case hg => rfl);(case hr => first|(go_simp;done)|(go_simp;rfl))
        intro gb136 hg w17 hbox hb
        have BK136:=am (hbox);have GW136:=am ((by rw [hg];exact (sz (by repeat (first|(with_reducible first|exact HB.out|apply sa|apply sn|apply sd|refine sy ?_ (by assumption))|exact HB.out))) : w.heap.size ≤ gb136));have GE136:=am ((by rw [hg];exact (sz (by repeat (first|(with_reducible first|exact HB.out|apply sa|apply sn|apply sd|refine sy ?_ (by assumption))|exact HB.out))) : w.heap.size ≤ gb136));replace HB:=am (ss (by repeat (first|(with_reducible first|exact HB.out|apply sa|apply sn|apply sd|refine sy ?_ (by assumption))|exact HB.out)) hb);have NB127_136:=nb (by exact BK127.out) hg;have NB136_127:=ng (by exact BK127.out) hg;replace BK127:=am (bw (by exact BK127.out) hb);have NB137_136:=nb (by exact BK137.out) hg;have NB136_137:=ng (by exact BK137.out) hg;replace BK137:=am (bw (by exact BK137.out) hb);clear hb hbox hg;refine hK.out _ _ ⟨(bc BK127.out 0).trans rfl,(bc BK127.out 1).trans rfl,(bc BK127.out 2).trans rfl,(bc BK127.out 3).trans rfl⟩ (fun hHeld => ?_);clear hK K;refine norm_ (a':=?_) ?_ ?_
        rotate_left
        · show Act.put _ (some 3) _ = _
          simp only [Act.put,q1,q2,q3,i64_w,i32_w]
          rfl
        exact norm_ (by first|(simp only [putAll,Act.put,q1,q2,q3];done)|(simp only [putAll,Act.put,q1,q2,q3];rfl)) (hJ1_3_4_5 (gb136,gb137) _ ⟨hHeld,(by exact BK127.out),(by exact BK136.out),(by exact BK137.out),GW136.out,GE136.out,NB127_136.out,NB136_127.out,NB137_136.out,NB136_137.out,GW137.out,GE137.out,NB127_137.out,NB137_127.out,(by repeat (first|(with_reducible first|exact HB.out|apply sa|apply sn|apply sd|refine sy ?_ (by assumption))|exact HB.out))⟩)
    · skip
      rintro gb136 w16 ⟨hS_,h0_,h1_,h2_,h3_,h4_,h5_,h6_⟩
      have n0_ : Aside0 (w16.heap[gb127]? = some (.cells #[.int .i64 a0_0,.int .i64 a0_1,.int .i64 a0_2,.int .i64 a0_3] 23 (0,0))):=⟨h0_⟩;have n1_ : Aside0 (w16.heap[gb136]? = some (.cells #[.int .i64 0,.int .i64 0,.int .i64 0,.int .i64 0] 23 (0,0))):=⟨h1_⟩;have n2_ : Aside0 (w.heap.size ≤ gb136):=⟨h2_⟩;have n3_ : Aside0 (w.heap.size ≤ gb136):=⟨h3_⟩;have n4_ : Aside0 (gb127 ≠ gb136):=⟨h4_⟩;have n5_ : Aside0 (gb136 ≠ gb127):=⟨h5_⟩;have n6_ : Aside0 (Below w.heap.size w w16):=⟨h6_⟩;clear BK127;clear HB;clear h0_ h1_ h2_ h3_ h4_ h5_ h6_;have BK127:=n0_;have BK136:=n1_;have GW136:=n2_;have GE136:=n3_;have NB127_136:=n4_;have NB136_127:=n5_;have HB:=n6_;clear n0_ n1_ n2_ n3_ n4_ n5_ n6_;have hHeld : w16.cell? ⟨gb127,0,none⟩ = some (.int .i64 a0_0) ∧ w16.cell? ⟨gb127,1,none⟩ = some (.int .i64 a0_1) ∧ w16.cell? ⟨gb127,2,none⟩ = some (.int .i64 a0_2) ∧ w16.cell? ⟨gb127,3,none⟩ = some (.int .i64 a0_3):=hS_;refine norm_ (a':=?_) ?_ ?_
      rotate_left
      · simp only [putAll,Act.put,q1,q2,q3]
        rfl
      refine one_ (i:=5) (N:=some 4) #[true,true,true,true,true,true,false,false] rfl rfl (one_of HT_.out (by kernel_rfl)) (by decide) (fun K hK => ?_);refine box_step ?hg (N:=4) ?hd (cs:=#[.int .i64 0,.int .i64 0,.int .i64 0,.int .i64 0]) (t:=23) ?hr ?_;(case hd => rfl);(case hg => rfl);(case hr => first|(go_simp;done)|(go_simp;rfl))
      intro gb137 hg w17 hbox hb
      have BK137:=am (hbox);have GW137:=am ((by rw [hg];exact (sz (by repeat (first|(with_reducible first|exact HB.out|apply sa|apply sn|apply sd|refine sy ?_ (by assumption))|exact HB.out))) : w.heap.size ≤ gb137));have GE137:=am ((by rw [hg];exact (sz (by repeat (first|(with_reducible first|exact HB.out|apply sa|apply sn|apply sd|refine sy ?_ (by assumption))|exact HB.out))) : w.heap.size ≤ gb137));replace HB:=am (ss (by repeat (first|(with_reducible first|exact HB.out|apply sa|apply sn|apply sd|refine sy ?_ (by assumption))|exact HB.out)) hb);have NB127_137:=nb (by exact BK127.out) hg;have NB137_127:=ng (by exact BK127.out) hg;replace BK127:=am (bw (by exact BK127.out) hb);have NB136_137:=nb (by exact BK136.out) hg;have NB137_136:=ng (by exact BK136.out) hg;replace BK136:=am (bw (by exact BK136.out) hb);clear hb hbox hg;refine hK.out _ _ ⟨(bc BK127.out 0).trans rfl,(bc BK127.out 1).trans rfl,(bc BK127.out 2).trans rfl,(bc BK127.out 3).trans rfl⟩ (fun hHeld => ?_);clear hK K;refine norm_ (a':=?_) ?_ ?_
      rotate_left
      · show Act.put _ (some 4) _ = _
        simp only [Act.put,q1,q2,q3,i64_w,i32_w]
        rfl
      exact norm_ (by first|(simp only [putAll,Act.put,q1,q2,q3];done)|(simp only [putAll,Act.put,q1,q2,q3];rfl)) (hJ1_3_4_5 (gb136,gb137) _ ⟨hHeld,(by exact BK127.out),(by exact BK136.out),(by exact BK137.out),GW136.out,GE136.out,NB127_136.out,NB136_127.out,NB137_136.out,NB136_137.out,GW137.out,GE137.out,NB127_137.out,NB137_127.out,(by repeat (first|(with_reducible first|exact HB.out|apply sa|apply sn|apply sd|refine sy ?_ (by assumption))|exact HB.out))⟩)
  rintro ⟨gb136,gb137⟩ w17 ⟨hS_,h0_,h1_,h2_,h3_,h4_,h5_,h6_,h7_,h8_,h9_,h10_,h11_,h12_,h13_⟩
  have n0_ : Aside0 (w17.heap[gb127]? = some (.cells #[.int .i64 a0_0,.int .i64 a0_1,.int .i64 a0_2,.int .i64 a0_3] 23 (0,0))):=⟨h0_⟩;have n1_ : Aside0 (w17.heap[gb136]? = some (.cells #[.int .i64 0,.int .i64 0,.int .i64 0,.int .i64 0] 23 (0,0))):=⟨h1_⟩;have n2_ : Aside0 (w17.heap[gb137]? = some (.cells #[.int .i64 0,.int .i64 0,.int .i64 0,.int .i64 0] 23 (0,0))):=⟨h2_⟩;have n3_ : Aside0 (w.heap.size ≤ gb136):=⟨h3_⟩;have n4_ : Aside0 (w.heap.size ≤ gb136):=⟨h4_⟩;have n5_ : Aside0 (gb127 ≠ gb136):=⟨h5_⟩;have n6_ : Aside0 (gb136 ≠ gb127):=⟨h6_⟩;have n7_ : Aside0 (gb137 ≠ gb136):=⟨h7_⟩;have n8_ : Aside0 (gb136 ≠ gb137):=⟨h8_⟩;have n9_ : Aside0 (w.heap.size ≤ gb137):=⟨h9_⟩;have n10_ : Aside0 (w.heap.size ≤ gb137):=⟨h10_⟩;have n11_ : Aside0 (gb127 ≠ gb137):=⟨h11_⟩;have n12_ : Aside0 (gb137 ≠ gb127):=⟨h12_⟩;have n13_ : Aside0 (Below w.heap.size w w17):=⟨h13_⟩;clear BK127;clear HB;clear h0_ h1_ h2_ h3_ h4_ h5_ h6_ h7_ h8_ h9_ h10_ h11_ h12_ h13_;have BK127:=n0_;have BK136:=n1_;have BK137:=n2_;have GW136:=n3_;have GE136:=n4_;have NB127_136:=n5_;have NB136_127:=n6_;have NB137_136:=n7_;have NB136_137:=n8_;have GW137:=n9_;have GE137:=n10_;have NB127_137:=n11_;have NB137_127:=n12_;have HB:=n13_;clear n0_ n1_ n2_ n3_ n4_ n5_ n6_ n7_ n8_ n9_ n10_ n11_ n12_ n13_;have hHeld : w17.cell? ⟨gb127,0,none⟩ = some (.int .i64 a0_0) ∧ w17.cell? ⟨gb127,1,none⟩ = some (.int .i64 a0_1) ∧ w17.cell? ⟨gb127,2,none⟩ = some (.int .i64 a0_2) ∧ w17.cell? ⟨gb127,3,none⟩ = some (.int .i64 a0_3):=hS_;refine norm_ (a':=?_) ?_ ?_
  rotate_left
  · simp only [putAll,Act.put,q1,q2,q3]
    rfl
  refine one_ (i:=6) (N:=none) #[true,true,true,true,true,true,true,false] rfl rfl (one_of HT_.out (by kernel_rfl)) (by decide) (fun K hK => ?_);have hs18 : w17.cell? ⟨gb136,0,none⟩ = some (.int .i64 0):=(bc BK136.out 0).trans rfl;have hfs18:=bz BK136.out 0;have hns18_0:=NB127_136.out;have hns18_2:=NB137_136.out;have hms18_0:=NB136_127.out;have hms18_2:=NB136_137.out;have hs19 : w17.cell? ⟨gb136,1,none⟩ = some (.int .i64 0):=(bc BK136.out 1).trans rfl;have hfs19:=bz BK136.out 1;have hns19_0:=NB127_136.out;have hns19_2:=NB137_136.out;have hms19_0:=NB136_127.out;have hms19_2:=NB136_137.out;have hs20 : w17.cell? ⟨gb136,2,none⟩ = some (.int .i64 0):=(bc BK136.out 2).trans rfl;have hfs20:=bz BK136.out 2;have hns20_0:=NB127_136.out;have hns20_2:=NB137_136.out;have hms20_0:=NB136_127.out;have hms20_2:=NB136_137.out;have hs21 : w17.cell? ⟨gb136,3,none⟩ = some (.int .i64 0):=(bc BK136.out 3).trans rfl;have hfs21:=bz BK136.out 3;have hns21_0:=NB127_136.out;have hns21_2:=NB137_136.out;have hms21_0:=NB136_127.out;have hms21_2:=NB136_137.out;refine skip_ (w1:=?_) (by rfl) rfl ?_ ?_
  rotate_left
  · go_simp
    rfl
  refine hK.out _ _ ⟨((cell_far (p:=⟨gb136,_,none⟩) NB127_136.out _).trans (((cell_far (p:=⟨gb136,_,none⟩) NB127_136.out _).trans (((cell_far (p:=⟨gb136,_,none⟩) NB127_136.out _).trans (((cell_far (p:=⟨gb136,_,none⟩) NB127_136.out _).trans (hHeld.1)))))))),((cell_far (p:=⟨gb136,_,none⟩) NB127_136.out _).trans (((cell_far (p:=⟨gb136,_,none⟩) NB127_136.out _).trans (((cell_far (p:=⟨gb136,_,none⟩) NB127_136.out _).trans (((cell_far (p:=⟨gb136,_,none⟩) NB127_136.out _).trans (hHeld.2.1)))))))),((cell_far (p:=⟨gb136,_,none⟩) NB127_136.out _).trans (((cell_far (p:=⟨gb136,_,none⟩) NB127_136.out _).trans (((cell_far (p:=⟨gb136,_,none⟩) NB127_136.out _).trans (((cell_far (p:=⟨gb136,_,none⟩) NB127_136.out _).trans (hHeld.2.2.1)))))))),((cell_far (p:=⟨gb136,_,none⟩) NB127_136.out _).trans (((cell_far (p:=⟨gb136,_,none⟩) NB127_136.out _).trans (((cell_far (p:=⟨gb136,_,none⟩) NB127_136.out _).trans (((cell_far (p:=⟨gb136,_,none⟩) NB127_136.out _).trans (hHeld.2.2.2))))))))⟩ (fun hHeld => ?_);clear hK K;refine one_ (i:=7) (N:=none) #[true,true,true,true,true,true,true,true] rfl rfl (one_of HT_.out (by kernel_rfl)) (by decide) (fun K hK => ?_);have hs22 : w17.cell? ⟨gb137,0,none⟩ = some (.int .i64 0):=(bc BK137.out 0).trans rfl;have hfs22:=bz BK137.out 0;have hns22_0:=NB127_137.out;have hns22_1:=NB136_137.out;have hms22_0:=NB137_127.out;have hms22_1:=NB137_136.out;have hs23 : w17.cell? ⟨gb137,1,none⟩ = some (.int .i64 0):=(bc BK137.out 1).trans rfl;have hfs23:=bz BK137.out 1;have hns23_0:=NB127_137.out;have hns23_1:=NB136_137.out;have hms23_0:=NB137_127.out;have hms23_1:=NB137_136.out;have hs24 : w17.cell? ⟨gb137,2,none⟩ = some (.int .i64 0):=(bc BK137.out 2).trans rfl;have hfs24:=bz BK137.out 2;have hns24_0:=NB127_137.out;have hns24_1:=NB136_137.out;have hms24_0:=NB137_127.out;have hms24_1:=NB137_136.out;have hs25 : w17.cell? ⟨gb137,3,none⟩ = some (.int .i64 0):=(bc BK137.out 3).trans rfl;have hfs25:=bz BK137.out 3;have hns25_0:=NB127_137.out;have hns25_1:=NB136_137.out;have hms25_0:=NB137_127.out;have hms25_1:=NB137_136.out;refine skip_ (w1:=?_) (by rfl) rfl ?_ ?_
  rotate_left
  · go_simp
    rfl
  refine hK.out _ _ ⟨((cell_far (p:=⟨gb137,_,none⟩) NB127_137.out _).trans (((cell_far (p:=⟨gb137,_,none⟩) NB127_137.out _).trans (((cell_far (p:=⟨gb137,_,none⟩) NB127_137.out _).trans (((cell_far (p:=⟨gb137,_,none⟩) NB127_137.out _).trans (hHeld.1)))))))),((cell_far (p:=⟨gb137,_,none⟩) NB127_137.out _).trans (((cell_far (p:=⟨gb137,_,none⟩) NB127_137.out _).trans (((cell_far (p:=⟨gb137,_,none⟩) NB127_137.out _).trans (((cell_far (p:=⟨gb137,_,none⟩) NB127_137.out _).trans (hHeld.2.1)))))))),((cell_far (p:=⟨gb137,_,none⟩) NB127_137.out _).trans (((cell_far (p:=⟨gb137,_,none⟩) NB127_137.out _).trans (((cell_far (p:=⟨gb137,_,none⟩) NB127_137.out _).trans (((cell_far (p:=⟨gb137,_,none⟩) NB127_137.out _).trans (hHeld.2.2.1)))))))),((cell_far (p:=⟨gb137,_,none⟩) NB127_137.out _).trans (((cell_far (p:=⟨gb137,_,none⟩) NB127_137.out _).trans (((cell_far (p:=⟨gb137,_,none⟩) NB127_137.out _).trans (((cell_far (p:=⟨gb137,_,none⟩) NB127_137.out _).trans (hHeld.2.2.2))))))))⟩ (fun hHeld => ?_);clear hK K;refine done_ (done_of HT_.out (by kernel_rfl)) ?_;have hnb26:=NB127_136.out;have hnc26:=NB136_127.out;have hnb27:=NB127_137.out;have hnc27:=NB137_127.out;have hcz28_0 : w17.cell? ⟨gb127,0,none⟩ = some (.int .i64 a0_0):=(bc BK127.out 0).trans rfl;have hcz28_1 : w17.cell? ⟨gb127,1,none⟩ = some (.int .i64 a0_1):=(bc BK127.out 1).trans rfl;have hcz28_2 : w17.cell? ⟨gb127,2,none⟩ = some (.int .i64 a0_2):=(bc BK127.out 2).trans rfl;have hcz28_3 : w17.cell? ⟨gb127,3,none⟩ = some (.int .i64 a0_3):=(bc BK127.out 3).trans rfl;have hfz28_0:=bz BK127.out 0;have hfz28_1:=bz BK127.out 1;have hfz28_2:=bz BK127.out 2;have hfz28_3:=bz BK127.out 3
  by_cases c5 : t138 = true
  · subst c5
    have H1 : ((celluloidref20_Faint.f a0_0 a0_1 a0_2 a0_3).bind fun bt139 => (if (t128 == bt139.1 && (t129 == bt139.2.1 && (t130 == bt139.2.2.1 && (t131 == bt139.2.2.2)))) = true then ((celluloidref20_Clear.f a0_0 a0_1 a0_2 a0_3).bind fun bt143 => (if (t132 == bt143.1 && (t133 == bt143.2.1 && (t134 == bt143.2.2.1 && (t135 == bt143.2.2.2)))) = true then ((celluloidlaw20_awake.f k).bind fun t147 => (some t147)) else (some false))) else (some false))) = some r:=by rw [if_pos rfl] at H;exact H
    clear H;have H:=H1;clear H1;replace H:=Option.bind_eq_some_iff.mp H;obtain ⟨⟨t139,t140,t141,t142⟩,A60,H⟩:=H;replace H : (if (t128 == t139 && (t129 == t140 && (t130 == t141 && (t131 == t142)))) = true then ((celluloidref20_Clear.f a0_0 a0_1 a0_2 a0_3).bind fun bt143 => (if (t132 == bt143.1 && (t133 == bt143.2.1 && (t134 == bt143.2.2.1 && (t135 == bt143.2.2.2)))) = true then ((celluloidlaw20_awake.f k).bind fun t147 => (some t147)) else (some false))) else (some false)) = some r:=H;have A6:=am A60;clear A60
    by_cases c7 : (t128 == t139 && (t129 == t140 && (t130 == t141 && (t131 == t142)))) = true
    · rw [if_pos c7] at H
      have c7b0 : (t128 == t139 && (t129 == t140 && (t130 == t141 && (t131 == t142)))) = true:=c7
      (try (have c7b1 : decide (t128 = t139 && (t129 == t140 && (t130 == t141 && (t131 == t142)))) = true:=by simpa using c7))
      (try (have c7b2 : (t128 == t139 && (t129 == t140 && (t130 == t141 && (t131 == t142)))) = true:=by simpa using c7))
      clear c7;replace H:=Option.bind_eq_some_iff.mp H;obtain ⟨⟨t143,t144,t145,t146⟩,A80,H⟩:=H;replace H : (if (t132 == t143 && (t133 == t144 && (t134 == t145 && (t135 == t146)))) = true then ((celluloidlaw20_awake.f k).bind fun t147 => (some t147)) else (some false)) = some r:=H;have A8:=am A80;clear A80
      by_cases c9 : (t132 == t143 && (t133 == t144 && (t134 == t145 && (t135 == t146)))) = true
      · rw [if_pos c9] at H
        have c9b0 : (t132 == t143 && (t133 == t144 && (t134 == t145 && (t135 == t146)))) = true:=c9
        (try (have c9b1 : decide (t132 = t143 && (t133 == t144 && (t134 == t145 && (t135 == t146)))) = true:=by simpa using c9))
        (try (have c9b2 : (t132 == t143 && (t133 == t144 && (t134 == t145 && (t135 == t146)))) = true:=by simpa using c9))
        clear c9;replace H:=Option.bind_eq_some_iff.mp H;obtain ⟨t147,A100,H⟩:=H;replace H : (some t147) = some r:=H;have A10:=am A100;clear A100;obtain rfl:=Option.some.inj H
        try go_wp2_with (first|((with_reducible refine gate_callee (f:=11) rfl ?_);refine goesL_ (some 10) rfl rfl Try.func11 (by kernel_rfl) rfl #[.agg #[.int .i64 a0_0,.int .i64 a0_1,.int .i64 a0_2,.int .i64 a0_3]] rfl (by (try simp only [List.map_toArray,List.map_cons,List.map_nil]);first|done|rfl|(simp only [List.length_drop,List.length_take];rfl)) ?_;(with_reducible refine (celluloidref07_RGBA.calls k a0_0 a0_1 a0_2 a0_3 true _ A4.out).mono ?_);rintro e w29 ⟨rfl,hb⟩;refine ⟨_,rfl,?_⟩;replace BK127:=am (wz BK127.out (by (with_reducible repeat (first|refine bn ?_ _|refine bd ?_|refine ba ?_ _|refine bf ?_ NB127_137.out _|refine bf ?_ NB127_136.out _));exact BK127.out) hb);replace BK136:=am (bw (g:=gb136) (o:=.cells #[.int .i64 t128,.int .i64 t129,.int .i64 t130,.int .i64 t131] 23 (0,0)) (by (with_reducible repeat (first|refine bn ?_ _|refine bd ?_|refine ba ?_ _));refine bf ?_ NB136_137.out _;(with_reducible repeat (first|refine bn ?_ _|refine bd ?_|refine ba ?_ _));refine bf ?_ NB136_137.out _;(with_reducible repeat (first|refine bn ?_ _|refine bd ?_|refine ba ?_ _));refine bf ?_ NB136_137.out _;(with_reducible repeat (first|refine bn ?_ _|refine bd ?_|refine ba ?_ _));refine bf ?_ NB136_137.out _;(with_reducible repeat (first|refine bn ?_ _|refine bd ?_|refine ba ?_ _));refine bp (cs:=#[.int .i64 t128,.int .i64 t129,.int .i64 t130,.int .i64 0]) ?_ 3 _ rfl;(with_reducible repeat (first|refine bn ?_ _|refine bd ?_|refine ba ?_ _));refine bp (cs:=#[.int .i64 t128,.int .i64 t129,.int .i64 0,.int .i64 0]) ?_ 2 _ rfl;(with_reducible repeat (first|refine bn ?_ _|refine bd ?_|refine ba ?_ _));refine bp (cs:=#[.int .i64 t128,.int .i64 0,.int .i64 0,.int .i64 0]) ?_ 1 _ rfl;(with_reducible repeat (first|refine bn ?_ _|refine bd ?_|refine ba ?_ _));refine bp (cs:=#[.int .i64 0,.int .i64 0,.int .i64 0,.int .i64 0]) ?_ 0 _ rfl;(with_reducible repeat (first|refine bn ?_ _|refine bd ?_|refine ba ?_ _));exact BK136.out) hb);replace BK137:=am (bw (g:=gb137) (o:=.cells #[.int .i64 t132,.int .i64 t133,.int .i64 t134,.int .i64 t135] 23 (0,0)) (by (with_reducible repeat (first|refine bn ?_ _|refine bd ?_|refine ba ?_ _));refine bp (cs:=#[.int .i64 t132,.int .i64 t133,.int .i64 t134,.int .i64 0]) ?_ 3 _ rfl;(with_reducible repeat (first|refine bn ?_ _|refine bd ?_|refine ba ?_ _));refine bp (cs:=#[.int .i64 t132,.int .i64 t133,.int .i64 0,.int .i64 0]) ?_ 2 _ rfl;(with_reducible repeat (first|refine bn ?_ _|refine bd ?_|refine ba ?_ _));refine bp (cs:=#[.int .i64 t132,.int .i64 0,.int .i64 0,.int .i64 0]) ?_ 1 _ rfl;(with_reducible repeat (first|refine bn ?_ _|refine bd ?_|refine ba ?_ _));refine bp (cs:=#[.int .i64 0,.int .i64 0,.int .i64 0,.int .i64 0]) ?_ 0 _ rfl;(with_reducible repeat (first|refine bn ?_ _|refine bd ?_|refine ba ?_ _));refine bf ?_ NB137_136.out _;(with_reducible repeat (first|refine bn ?_ _|refine bd ?_|refine ba ?_ _));refine bf ?_ NB137_136.out _;(with_reducible repeat (first|refine bn ?_ _|refine bd ?_|refine ba ?_ _));refine bf ?_ NB137_136.out _;(with_reducible repeat (first|refine bn ?_ _|refine bd ?_|refine ba ?_ _));refine bf ?_ NB137_136.out _;(with_reducible repeat (first|refine bn ?_ _|refine bd ?_|refine ba ?_ _));exact BK137.out) hb);replace HB:=am (ss (by repeat (first|(with_reducible first|exact HB.out|apply sa|apply sn|apply sd|refine sy ?_ (by assumption))|exact HB.out)) hb);(try clear hb);(try clear hb2);(try clear hk);(try clear hi)))
        replace BK127:=am (bd BK127.out);replace BK136:=am (bd BK136.out);replace BK137:=am (bd BK137.out);replace HB:=am (sd HB.out);refine start_ (n:=14) (S:=fun w' => w'.cell? ⟨gb136,0,none⟩ = some (.int .i64 t128) ∧ w'.cell? ⟨gb136,1,none⟩ = some (.int .i64 t129) ∧ w'.cell? ⟨gb136,2,none⟩ = some (.int .i64 t130) ∧ w'.cell? ⟨gb136,3,none⟩ = some (.int .i64 t131) ∧ w'.cell? ⟨gb127,0,none⟩ = some (.int .i64 a0_0) ∧ w'.cell? ⟨gb127,1,none⟩ = some (.int .i64 a0_1) ∧ w'.cell? ⟨gb127,2,none⟩ = some (.int .i64 a0_2) ∧ w'.cell? ⟨gb127,3,none⟩ = some (.int .i64 a0_3) ∧ w'.cell? ⟨gb137,0,none⟩ = some (.int .i64 t132) ∧ w'.cell? ⟨gb137,1,none⟩ = some (.int .i64 t133) ∧ w'.cell? ⟨gb137,2,none⟩ = some (.int .i64 t134) ∧ w'.cell? ⟨gb137,3,none⟩ = some (.int .i64 t135)) (ds:=[]) #[false,false,false,false,false,false,false,false,false,false,false,false,false,false] (by kernel_rfl) rfl rfl ⟨(bc BK136.out 0).trans rfl,(bc BK136.out 1).trans rfl,(bc BK136.out 2).trans rfl,(bc BK136.out 3).trans rfl,(bc BK127.out 0).trans rfl,(bc BK127.out 1).trans rfl,(bc BK127.out 2).trans rfl,(bc BK127.out 3).trans rfl,(bc BK137.out 0).trans rfl,(bc BK137.out 1).trans rfl,(bc BK137.out 2).trans rfl,(bc BK137.out 3).trans rfl⟩ (fun hHeld => ?_);refine with_tabW celluloidlaw20_PaintFaint.tab4 celluloidlaw20_PaintFaint.bits4 (fun HT_ HW_ => ?_);generalize w29.drew = w30 at BK127 BK136 BK137 HB hHeld ⊢;refine take_ (i:=0) (N:=some 23) (v:=?_) (a':=?_) #[true,false,false,false,false,false,false,false,false,false,false,false,false,false] rfl rfl (take_ofW HT_.out HW_.out (by kernel_rfl)) (fun _ _ _ h => h) (Or.inl ⟨by rfl,?_⟩) hHeld ?_ ?_
        rotate_left
        · rintro w' ⟨s0,s1,s2,s3,s4,s5,s6,s7,s8,s9,s10,s11⟩
          go_simp
          with_reducible rfl
        rotate_left
        · simp only [Act.put,q1,q2,q3,i64_w,i32_w]
          rfl
        refine take_ (i:=1) (N:=some 24) (v:=?_) (a':=?_) #[true,true,false,false,false,false,false,false,false,false,false,false,false,false] rfl rfl (take_ofW HT_.out HW_.out (by kernel_rfl)) (fun _ _ _ h => h) (Or.inl ⟨by rfl,?_⟩) hHeld ?_ ?_
        rotate_left
        · rintro w' ⟨s0,s1,s2,s3,s4,s5,s6,s7,s8,s9,s10,s11⟩
          go_simp
          with_reducible rfl
        rotate_left
        · simp only [Act.put,q1,q2,q3,i64_w,i32_w]
          rfl
        refine one_ (i:=2) (N:=some 25) #[true,true,true,false,false,false,false,false,false,false,false,false,false,false] rfl rfl (one_of HT_.out (by kernel_rfl)) (by decide) (fun K hK => ?_);refine goes_ Try.func13 (by kernel_rfl) rfl #[.agg #[.int .i64 a0_0,.int .i64 a0_1,.int .i64 a0_2,.int .i64 a0_3]] (by rfl) rfl rfl (by (try simp only [List.map_toArray,List.map_cons,List.map_nil]);first|done|rfl|(simp only [List.length_drop,List.length_take];rfl)) ?_
        with_reducible refine (celluloidref20_Faint.calls a0_0 a0_1 a0_2 a0_3 t139 t140 t141 t142 _ A6.out).mono ?_
        rintro e w31 ⟨rfl,hb⟩
        refine ⟨_,rfl,?_⟩;replace BK127:=am (bw (by exact BK127.out) hb);replace BK136:=am (bw (by exact BK136.out) hb);replace BK137:=am (bw (by exact BK137.out) hb);replace HB:=am (ss (by repeat (first|(with_reducible first|exact HB.out|apply sa|apply sn|apply sd|refine sy ?_ (by assumption))|exact HB.out)) hb);(try clear hb);(try clear hb2);(try clear hk);(try clear hi);refine hK.out _ _ ⟨(bc BK136.out 0).trans rfl,(bc BK136.out 1).trans rfl,(bc BK136.out 2).trans rfl,(bc BK136.out 3).trans rfl,(bc BK127.out 0).trans rfl,(bc BK127.out 1).trans rfl,(bc BK127.out 2).trans rfl,(bc BK127.out 3).trans rfl,(bc BK137.out 0).trans rfl,(bc BK137.out 1).trans rfl,(bc BK137.out 2).trans rfl,(bc BK137.out 3).trans rfl⟩ (fun hHeld => ?_);clear hK K;refine norm_ (a':=?_) ?_ ?_
        rotate_left
        · show Act.put _ (some 25) _ = _
          simp only [Act.put,q1,q2,q3,i64_w,i32_w]
          rfl
        refine pure_ (i:=3) (N:=some 26) (v:=?_) (a':=?_) #[true,true,true,true,false,false,false,false,false,false,false,false,false,false] rfl rfl (any_of HT_.out (by kernel_rfl)) (fun _ _ _ h => h) (Or.inl ⟨by rfl,?_⟩) ?_ ?_
        rotate_left
        · intro w'
          go_simp
          with_reducible rfl
        rotate_left
        · simp only [Act.put,q1,q2,q3,i64_w,i32_w]
          rfl
        refine pure_ (i:=4) (N:=some 27) (v:=?_) (a':=?_) #[true,true,true,true,true,false,false,false,false,false,false,false,false,false] rfl rfl (any_of HT_.out (by kernel_rfl)) (fun _ _ _ h => h) (Or.inl ⟨by rfl,?_⟩) ?_ ?_
        rotate_left
        · intro w'
          go_simp
          with_reducible rfl
        rotate_left
        · simp only [Act.put,q1,q2,q3,i64_w,i32_w]
          rfl
        refine take_ (i:=5) (N:=some 28) (v:=?_) (a':=?_) #[true,true,true,true,true,true,false,false,false,false,false,false,false,false] rfl rfl (take_ofW HT_.out HW_.out (by kernel_rfl)) (fun _ _ _ h => h) (Or.inl ⟨by rfl,?_⟩) hHeld ?_ ?_
        rotate_left
        · rintro w' ⟨s0,s1,s2,s3,s4,s5,s6,s7,s8,s9,s10,s11⟩
          go_simp
          with_reducible rfl
        rotate_left
        · simp only [Act.put,q1,q2,q3,i64_w,i32_w]
          rfl
        refine take_ (i:=6) (N:=some 29) (v:=?_) (a':=?_) #[true,true,true,true,true,true,true,false,false,false,false,false,false,false] rfl rfl (take_ofW HT_.out HW_.out (by kernel_rfl)) (fun _ _ _ h => h) (Or.inl ⟨by rfl,?_⟩) hHeld ?_ ?_
        rotate_left
        · rintro w' ⟨s0,s1,s2,s3,s4,s5,s6,s7,s8,s9,s10,s11⟩
          go_simp
          with_reducible rfl
        rotate_left
        · simp only [Act.put,q1,q2,q3,i64_w,i32_w]
          rfl
        refine one_ (i:=7) (N:=some 30) #[true,true,true,true,true,true,true,true,false,false,false,false,false,false] rfl rfl (one_of HT_.out (by kernel_rfl)) (by decide) (fun K hK => ?_);refine goes_ Try.func14 (by kernel_rfl) rfl #[.agg #[.int .i64 a0_0,.int .i64 a0_1,.int .i64 a0_2,.int .i64 a0_3]] (by rfl) rfl rfl (by (try simp only [List.map_toArray,List.map_cons,List.map_nil]);first|done|rfl|(simp only [List.length_drop,List.length_take];rfl)) ?_
        with_reducible refine (celluloidref20_Clear.calls a0_0 a0_1 a0_2 a0_3 t143 t144 t145 t146 _ A8.out).mono ?_
        rintro e w32 ⟨rfl,hb⟩
        refine ⟨_,rfl,?_⟩;replace BK127:=am (bw (by exact BK127.out) hb);replace BK136:=am (bw (by exact BK136.out) hb);replace BK137:=am (bw (by exact BK137.out) hb);replace HB:=am (ss (by repeat (first|(with_reducible first|exact HB.out|apply sa|apply sn|apply sd|refine sy ?_ (by assumption))|exact HB.out)) hb);(try clear hb);(try clear hb2);(try clear hk);(try clear hi);refine hK.out _ _ ⟨(bc BK136.out 0).trans rfl,(bc BK136.out 1).trans rfl,(bc BK136.out 2).trans rfl,(bc BK136.out 3).trans rfl,(bc BK127.out 0).trans rfl,(bc BK127.out 1).trans rfl,(bc BK127.out 2).trans rfl,(bc BK127.out 3).trans rfl,(bc BK137.out 0).trans rfl,(bc BK137.out 1).trans rfl,(bc BK137.out 2).trans rfl,(bc BK137.out 3).trans rfl⟩ (fun hHeld => ?_);clear hK K;refine norm_ (a':=?_) ?_ ?_
        rotate_left
        · show Act.put _ (some 30) _ = _
          simp only [Act.put,q1,q2,q3,i64_w,i32_w]
          rfl
        refine pure_ (i:=8) (N:=some 31) (v:=?_) (a':=?_) #[true,true,true,true,true,true,true,true,true,false,false,false,false,false] rfl rfl (any_of HT_.out (by kernel_rfl)) (fun _ _ _ h => h) (Or.inl ⟨by rfl,?_⟩) ?_ ?_
        rotate_left
        · intro w'
          go_simp
          with_reducible rfl
        rotate_left
        · simp only [Act.put,q1,q2,q3,i64_w,i32_w]
          rfl
        refine pure_ (i:=9) (N:=some 32) (v:=?_) (a':=?_) #[true,true,true,true,true,true,true,true,true,true,false,false,false,false] rfl rfl (any_of HT_.out (by kernel_rfl)) (fun _ _ _ h => h) (Or.inl ⟨by rfl,?_⟩) ?_ ?_
        rotate_left
        · intro w'
          go_simp
          with_reducible rfl
        rotate_left
        · simp only [Act.put,q1,q2,q3,i64_w,i32_w]
          rfl
        refine pure_ (i:=10) (N:=some 33) (v:=?_) (a':=?_) #[true,true,true,true,true,true,true,true,true,true,true,false,false,false] rfl rfl (any_of HT_.out (by kernel_rfl)) (fun _ _ _ h => h) (Or.inl ⟨by rfl,?_⟩) ?_ ?_
        rotate_left
        · intro w'
          go_simp
          with_reducible rfl
        rotate_left
        · simp only [Act.put,q1,q2,q3,i64_w,i32_w]
          rfl
        refine one_ (i:=11) (N:=some 34) #[true,true,true,true,true,true,true,true,true,true,true,true,false,false] rfl rfl (one_of HT_.out (by kernel_rfl)) (by decide) (fun K hK => ?_);refine goes_ Try.func12 (by kernel_rfl) rfl #[] (by rfl) rfl rfl (by (try simp only [List.map_toArray,List.map_cons,List.map_nil]);first|done|rfl|(simp only [List.length_drop,List.length_take];rfl)) ?_
        with_reducible refine (celluloidlaw20_awake.calls k  t147 _ A10.out).mono ?_
        rintro e w33 ⟨rfl,hb⟩
        refine ⟨_,rfl,?_⟩;replace BK127:=am (bw (by exact BK127.out) hb);replace BK136:=am (bw (by exact BK136.out) hb);replace BK137:=am (bw (by exact BK137.out) hb);replace HB:=am (ss (by repeat (first|(with_reducible first|exact HB.out|apply sa|apply sn|apply sd|refine sy ?_ (by assumption))|exact HB.out)) hb);(try clear hb);(try clear hb2);(try clear hk);(try clear hi);refine hK.out _ _ ⟨(bc BK136.out 0).trans rfl,(bc BK136.out 1).trans rfl,(bc BK136.out 2).trans rfl,(bc BK136.out 3).trans rfl,(bc BK127.out 0).trans rfl,(bc BK127.out 1).trans rfl,(bc BK127.out 2).trans rfl,(bc BK127.out 3).trans rfl,(bc BK137.out 0).trans rfl,(bc BK137.out 1).trans rfl,(bc BK137.out 2).trans rfl,(bc BK137.out 3).trans rfl⟩ (fun hHeld => ?_);clear hK K;refine norm_ (a':=?_) ?_ ?_
        rotate_left
        · show Act.put _ (some 34) _ = _
          simp only [Act.put,q1,q2,q3,i64_w,i32_w]
          rfl
        refine pure_ (i:=12) (N:=some 35) (v:=?_) (a':=?_) #[true,true,true,true,true,true,true,true,true,true,true,true,true,false] rfl rfl (any_of HT_.out (by kernel_rfl)) (fun _ _ _ h => h) (Or.inl ⟨by rfl,?_⟩) ?_ ?_
        rotate_left
        · intro w'
          go_simp
          with_reducible rfl
        rotate_left
        · simp only [Act.put,q1,q2,q3,i64_w,i32_w]
          rfl
        refine pure_ (i:=13) (N:=some 2) (v:=?_) (a':=?_) #[true,true,true,true,true,true,true,true,true,true,true,true,true,true] rfl rfl (any_of HT_.out (by kernel_rfl)) (fun _ _ _ h => h) (Or.inl ⟨by rfl,?_⟩) ?_ ?_
        rotate_left
        · intro w'
          go_simp
          with_reducible rfl
        rotate_left
        · simp only [Act.put,q1,q2,q3,i64_w,i32_w]
          rfl
        refine done_ (done_of HT_.out (by kernel_rfl)) ?_
        try go_wp2
        go_ret
        exact ⟨by first|rfl|(simp [errW_none,errW_some] <;> rfl)|(simp [*,errW_none,errW_some] <;> rfl),by repeat (first|(with_reducible first|exact HB.out|apply sa|apply sn|apply sd|refine sy ?_ (by assumption))|exact HB.out)⟩
      · rw [if_neg c9] at H
        have c9b0 : (t132 == t143 && (t133 == t144 && (t134 == t145 && (t135 == t146)))) = false:=by simpa using c9
        (try (have c9b1 : decide (t132 = t143 && (t133 == t144 && (t134 == t145 && (t135 == t146)))) = false:=by simpa using c9))
        (try (have c9b2 : (t132 == t143 && (t133 == t144 && (t134 == t145 && (t135 == t146)))) = false:=by simpa using c9))
        (try (have c9b3 : ¬ (t132 = t143 && (t133 == t144 && (t134 == t145 && (t135 == t146)))):=by simpa using c9))
        clear c9;obtain rfl:=Option.some.inj H
        try go_wp2_with (first|((with_reducible refine gate_callee (f:=11) rfl ?_);refine goesL_ (some 10) rfl rfl Try.func11 (by kernel_rfl) rfl #[.agg #[.int .i64 a0_0,.int .i64 a0_1,.int .i64 a0_2,.int .i64 a0_3]] rfl (by (try simp only [List.map_toArray,List.map_cons,List.map_nil]);first|done|rfl|(simp only [List.length_drop,List.length_take];rfl)) ?_;(with_reducible refine (celluloidref07_RGBA.calls k a0_0 a0_1 a0_2 a0_3 true _ A4.out).mono ?_);rintro e w52 ⟨rfl,hb⟩;refine ⟨_,rfl,?_⟩;replace BK127:=am (wz BK127.out (by (with_reducible repeat (first|refine bn ?_ _|refine bd ?_|refine ba ?_ _|refine bf ?_ NB127_137.out _|refine bf ?_ NB127_136.out _));exact BK127.out) hb);replace BK136:=am (bw (g:=gb136) (o:=.cells #[.int .i64 t128,.int .i64 t129,.int .i64 t130,.int .i64 t131] 23 (0,0)) (by (with_reducible repeat (first|refine bn ?_ _|refine bd ?_|refine ba ?_ _));refine bf ?_ NB136_137.out _;(with_reducible repeat (first|refine bn ?_ _|refine bd ?_|refine ba ?_ _));refine bf ?_ NB136_137.out _;(with_reducible repeat (first|refine bn ?_ _|refine bd ?_|refine ba ?_ _));refine bf ?_ NB136_137.out _;(with_reducible repeat (first|refine bn ?_ _|refine bd ?_|refine ba ?_ _));refine bf ?_ NB136_137.out _;(with_reducible repeat (first|refine bn ?_ _|refine bd ?_|refine ba ?_ _));refine bp (cs:=#[.int .i64 t128,.int .i64 t129,.int .i64 t130,.int .i64 0]) ?_ 3 _ rfl;(with_reducible repeat (first|refine bn ?_ _|refine bd ?_|refine ba ?_ _));refine bp (cs:=#[.int .i64 t128,.int .i64 t129,.int .i64 0,.int .i64 0]) ?_ 2 _ rfl;(with_reducible repeat (first|refine bn ?_ _|refine bd ?_|refine ba ?_ _));refine bp (cs:=#[.int .i64 t128,.int .i64 0,.int .i64 0,.int .i64 0]) ?_ 1 _ rfl;(with_reducible repeat (first|refine bn ?_ _|refine bd ?_|refine ba ?_ _));refine bp (cs:=#[.int .i64 0,.int .i64 0,.int .i64 0,.int .i64 0]) ?_ 0 _ rfl;(with_reducible repeat (first|refine bn ?_ _|refine bd ?_|refine ba ?_ _));exact BK136.out) hb);replace BK137:=am (bw (g:=gb137) (o:=.cells #[.int .i64 t132,.int .i64 t133,.int .i64 t134,.int .i64 t135] 23 (0,0)) (by (with_reducible repeat (first|refine bn ?_ _|refine bd ?_|refine ba ?_ _));refine bp (cs:=#[.int .i64 t132,.int .i64 t133,.int .i64 t134,.int .i64 0]) ?_ 3 _ rfl;(with_reducible repeat (first|refine bn ?_ _|refine bd ?_|refine ba ?_ _));refine bp (cs:=#[.int .i64 t132,.int .i64 t133,.int .i64 0,.int .i64 0]) ?_ 2 _ rfl;(with_reducible repeat (first|refine bn ?_ _|refine bd ?_|refine ba ?_ _));refine bp (cs:=#[.int .i64 t132,.int .i64 0,.int .i64 0,.int .i64 0]) ?_ 1 _ rfl;(with_reducible repeat (first|refine bn ?_ _|refine bd ?_|refine ba ?_ _));refine bp (cs:=#[.int .i64 0,.int .i64 0,.int .i64 0,.int .i64 0]) ?_ 0 _ rfl;(with_reducible repeat (first|refine bn ?_ _|refine bd ?_|refine ba ?_ _));refine bf ?_ NB137_136.out _;(with_reducible repeat (first|refine bn ?_ _|refine bd ?_|refine ba ?_ _));refine bf ?_ NB137_136.out _;(with_reducible repeat (first|refine bn ?_ _|refine bd ?_|refine ba ?_ _));refine bf ?_ NB137_136.out _;(with_reducible repeat (first|refine bn ?_ _|refine bd ?_|refine ba ?_ _));refine bf ?_ NB137_136.out _;(with_reducible repeat (first|refine bn ?_ _|refine bd ?_|refine ba ?_ _));exact BK137.out) hb);replace HB:=am (ss (by repeat (first|(with_reducible first|exact HB.out|apply sa|apply sn|apply sd|refine sy ?_ (by assumption))|exact HB.out)) hb);(try clear hb);(try clear hb2);(try clear hk);(try clear hi)))
        replace BK127:=am (bd BK127.out);replace BK136:=am (bd BK136.out);replace BK137:=am (bd BK137.out);replace HB:=am (sd HB.out);refine start_ (n:=14) (S:=fun w' => w'.cell? ⟨gb136,0,none⟩ = some (.int .i64 t128) ∧ w'.cell? ⟨gb136,1,none⟩ = some (.int .i64 t129) ∧ w'.cell? ⟨gb136,2,none⟩ = some (.int .i64 t130) ∧ w'.cell? ⟨gb136,3,none⟩ = some (.int .i64 t131) ∧ w'.cell? ⟨gb127,0,none⟩ = some (.int .i64 a0_0) ∧ w'.cell? ⟨gb127,1,none⟩ = some (.int .i64 a0_1) ∧ w'.cell? ⟨gb127,2,none⟩ = some (.int .i64 a0_2) ∧ w'.cell? ⟨gb127,3,none⟩ = some (.int .i64 a0_3) ∧ w'.cell? ⟨gb137,0,none⟩ = some (.int .i64 t132) ∧ w'.cell? ⟨gb137,1,none⟩ = some (.int .i64 t133) ∧ w'.cell? ⟨gb137,2,none⟩ = some (.int .i64 t134) ∧ w'.cell? ⟨gb137,3,none⟩ = some (.int .i64 t135)) (ds:=[]) #[false,false,false,false,false,false,false,false,false,false,false,false,false,false] (by kernel_rfl) rfl rfl ⟨(bc BK136.out 0).trans rfl,(bc BK136.out 1).trans rfl,(bc BK136.out 2).trans rfl,(bc BK136.out 3).trans rfl,(bc BK127.out 0).trans rfl,(bc BK127.out 1).trans rfl,(bc BK127.out 2).trans rfl,(bc BK127.out 3).trans rfl,(bc BK137.out 0).trans rfl,(bc BK137.out 1).trans rfl,(bc BK137.out 2).trans rfl,(bc BK137.out 3).trans rfl⟩ (fun hHeld => ?_);refine with_tabW celluloidlaw20_PaintFaint.tab4 celluloidlaw20_PaintFaint.bits4 (fun HT_ HW_ => ?_);generalize w52.drew = w53 at BK127 BK136 BK137 HB hHeld ⊢;refine take_ (i:=0) (N:=some 23) (v:=?_) (a':=?_) #[true,false,false,false,false,false,false,false,false,false,false,false,false,false] rfl rfl (take_ofW HT_.out HW_.out (by kernel_rfl)) (fun _ _ _ h => h) (Or.inl ⟨by rfl,?_⟩) hHeld ?_ ?_
        rotate_left
        · rintro w' ⟨s0,s1,s2,s3,s4,s5,s6,s7,s8,s9,s10,s11⟩
          go_simp
          with_reducible rfl
        rotate_left
        · simp only [Act.put,q1,q2,q3,i64_w,i32_w]
          rfl
        refine take_ (i:=1) (N:=some 24) (v:=?_) (a':=?_) #[true,true,false,false,false,false,false,false,false,false,false,false,false,false] rfl rfl (take_ofW HT_.out HW_.out (by kernel_rfl)) (fun _ _ _ h => h) (Or.inl ⟨by rfl,?_⟩) hHeld ?_ ?_
        rotate_left
        · rintro w' ⟨s0,s1,s2,s3,s4,s5,s6,s7,s8,s9,s10,s11⟩
          go_simp
          with_reducible rfl
        rotate_left
        · simp only [Act.put,q1,q2,q3,i64_w,i32_w]
          rfl
        refine one_ (i:=2) (N:=some 25) #[true,true,true,false,false,false,false,false,false,false,false,false,false,false] rfl rfl (one_of HT_.out (by kernel_rfl)) (by decide) (fun K hK => ?_);refine goes_ Try.func13 (by kernel_rfl) rfl #[.agg #[.int .i64 a0_0,.int .i64 a0_1,.int .i64 a0_2,.int .i64 a0_3]] (by rfl) rfl rfl (by (try simp only [List.map_toArray,List.map_cons,List.map_nil]);first|done|rfl|(simp only [List.length_drop,List.length_take];rfl)) ?_
        with_reducible refine (celluloidref20_Faint.calls a0_0 a0_1 a0_2 a0_3 t139 t140 t141 t142 _ A6.out).mono ?_
        rintro e w54 ⟨rfl,hb⟩
        refine ⟨_,rfl,?_⟩;replace BK127:=am (bw (by exact BK127.out) hb);replace BK136:=am (bw (by exact BK136.out) hb);replace BK137:=am (bw (by exact BK137.out) hb);replace HB:=am (ss (by repeat (first|(with_reducible first|exact HB.out|apply sa|apply sn|apply sd|refine sy ?_ (by assumption))|exact HB.out)) hb);(try clear hb);(try clear hb2);(try clear hk);(try clear hi);refine hK.out _ _ ⟨(bc BK136.out 0).trans rfl,(bc BK136.out 1).trans rfl,(bc BK136.out 2).trans rfl,(bc BK136.out 3).trans rfl,(bc BK127.out 0).trans rfl,(bc BK127.out 1).trans rfl,(bc BK127.out 2).trans rfl,(bc BK127.out 3).trans rfl,(bc BK137.out 0).trans rfl,(bc BK137.out 1).trans rfl,(bc BK137.out 2).trans rfl,(bc BK137.out 3).trans rfl⟩ (fun hHeld => ?_);clear hK K;refine norm_ (a':=?_) ?_ ?_
        rotate_left
        · show Act.put _ (some 25) _ = _
          simp only [Act.put,q1,q2,q3,i64_w,i32_w]
          rfl
        refine pure_ (i:=3) (N:=some 26) (v:=?_) (a':=?_) #[true,true,true,true,false,false,false,false,false,false,false,false,false,false] rfl rfl (any_of HT_.out (by kernel_rfl)) (fun _ _ _ h => h) (Or.inl ⟨by rfl,?_⟩) ?_ ?_
        rotate_left
        · intro w'
          go_simp
          with_reducible rfl
        rotate_left
        · simp only [Act.put,q1,q2,q3,i64_w,i32_w]
          rfl
        refine pure_ (i:=4) (N:=some 27) (v:=?_) (a':=?_) #[true,true,true,true,true,false,false,false,false,false,false,false,false,false] rfl rfl (any_of HT_.out (by kernel_rfl)) (fun _ _ _ h => h) (Or.inl ⟨by rfl,?_⟩) ?_ ?_
        rotate_left
        · intro w'
          go_simp
          with_reducible rfl
        rotate_left
        · simp only [Act.put,q1,q2,q3,i64_w,i32_w]
          rfl
        refine take_ (i:=5) (N:=some 28) (v:=?_) (a':=?_) #[true,true,true,true,true,true,false,false,false,false,false,false,false,false] rfl rfl (take_ofW HT_.out HW_.out (by kernel_rfl)) (fun _ _ _ h => h) (Or.inl ⟨by rfl,?_⟩) hHeld ?_ ?_
        rotate_left
        · rintro w' ⟨s0,s1,s2,s3,s4,s5,s6,s7,s8,s9,s10,s11⟩
          go_simp
          with_reducible rfl
        rotate_left
        · simp only [Act.put,q1,q2,q3,i64_w,i32_w]
          rfl
        refine take_ (i:=6) (N:=some 29) (v:=?_) (a':=?_) #[true,true,true,true,true,true,true,false,false,false,false,false,false,false] rfl rfl (take_ofW HT_.out HW_.out (by kernel_rfl)) (fun _ _ _ h => h) (Or.inl ⟨by rfl,?_⟩) hHeld ?_ ?_
        rotate_left
        · rintro w' ⟨s0,s1,s2,s3,s4,s5,s6,s7,s8,s9,s10,s11⟩
          go_simp
          with_reducible rfl
        rotate_left
        · simp only [Act.put,q1,q2,q3,i64_w,i32_w]
          rfl
        refine one_ (i:=7) (N:=some 30) #[true,true,true,true,true,true,true,true,false,false,false,false,false,false] rfl rfl (one_of HT_.out (by kernel_rfl)) (by decide) (fun K hK => ?_);refine goes_ Try.func14 (by kernel_rfl) rfl #[.agg #[.int .i64 a0_0,.int .i64 a0_1,.int .i64 a0_2,.int .i64 a0_3]] (by rfl) rfl rfl (by (try simp only [List.map_toArray,List.map_cons,List.map_nil]);first|done|rfl|(simp only [List.length_drop,List.length_take];rfl)) ?_
        with_reducible refine (celluloidref20_Clear.calls a0_0 a0_1 a0_2 a0_3 t143 t144 t145 t146 _ A8.out).mono ?_
        rintro e w55 ⟨rfl,hb⟩
        refine ⟨_,rfl,?_⟩;replace BK127:=am (bw (by exact BK127.out) hb);replace BK136:=am (bw (by exact BK136.out) hb);replace BK137:=am (bw (by exact BK137.out) hb);replace HB:=am (ss (by repeat (first|(with_reducible first|exact HB.out|apply sa|apply sn|apply sd|refine sy ?_ (by assumption))|exact HB.out)) hb);(try clear hb);(try clear hb2);(try clear hk);(try clear hi);refine hK.out _ _ ⟨(bc BK136.out 0).trans rfl,(bc BK136.out 1).trans rfl,(bc BK136.out 2).trans rfl,(bc BK136.out 3).trans rfl,(bc BK127.out 0).trans rfl,(bc BK127.out 1).trans rfl,(bc BK127.out 2).trans rfl,(bc BK127.out 3).trans rfl,(bc BK137.out 0).trans rfl,(bc BK137.out 1).trans rfl,(bc BK137.out 2).trans rfl,(bc BK137.out 3).trans rfl⟩ (fun hHeld => ?_);clear hK K;refine norm_ (a':=?_) ?_ ?_
        rotate_left
        · show Act.put _ (some 30) _ = _
          simp only [Act.put,q1,q2,q3,i64_w,i32_w]
          rfl
        refine pure_ (i:=8) (N:=some 31) (v:=?_) (a':=?_) #[true,true,true,true,true,true,true,true,true,false,false,false,false,false] rfl rfl (any_of HT_.out (by kernel_rfl)) (fun _ _ _ h => h) (Or.inl ⟨by rfl,?_⟩) ?_ ?_
        rotate_left
        · intro w'
          go_simp
          with_reducible rfl
        rotate_left
        · simp only [Act.put,q1,q2,q3,i64_w,i32_w]
          rfl
        refine pure_ (i:=9) (N:=some 32) (v:=?_) (a':=?_) #[true,true,true,true,true,true,true,true,true,true,false,false,false,false] rfl rfl (any_of HT_.out (by kernel_rfl)) (fun _ _ _ h => h) (Or.inl ⟨by rfl,?_⟩) ?_ ?_
        rotate_left
        · intro w'
          go_simp
          with_reducible rfl
        rotate_left
        · simp only [Act.put,q1,q2,q3,i64_w,i32_w]
          rfl
        refine pure_ (i:=10) (N:=some 33) (v:=?_) (a':=?_) #[true,true,true,true,true,true,true,true,true,true,true,false,false,false] rfl rfl (any_of HT_.out (by kernel_rfl)) (fun _ _ _ h => h) (Or.inl ⟨by rfl,?_⟩) ?_ ?_
        rotate_left
        · intro w'
          go_simp
          with_reducible rfl
        rotate_left
        · simp only [Act.put,q1,q2,q3,i64_w,i32_w]
          rfl
        refine pure_ (i:=11) (N:=some 34) (v:=undef) (a':=?_) #[true,true,true,true,true,true,true,true,true,true,true,true,false,false] rfl rfl (any_of HT_.out (by kernel_rfl)) (fun _ _ _ h => h) (Or.inr ⟨by rfl,rfl⟩) ?_ ?_
        rotate_left
        · simp only [Act.put,q1,q2,q3,i64_w,i32_w]
          rfl
        refine pure_ (i:=12) (N:=some 35) (v:=?_) (a':=?_) #[true,true,true,true,true,true,true,true,true,true,true,true,true,false] rfl rfl (any_of HT_.out (by kernel_rfl)) (fun _ _ _ h => h) (Or.inl ⟨by rfl,?_⟩) ?_ ?_
        rotate_left
        · intro w'
          go_simp
          with_reducible rfl
        rotate_left
        · simp only [Act.put,q1,q2,q3,i64_w,i32_w]
          rfl
        refine pure_ (i:=13) (N:=some 2) (v:=?_) (a':=?_) #[true,true,true,true,true,true,true,true,true,true,true,true,true,true] rfl rfl (any_of HT_.out (by kernel_rfl)) (fun _ _ _ h => h) (Or.inl ⟨by rfl,?_⟩) ?_ ?_
        rotate_left
        · intro w'
          go_simp
          with_reducible rfl
        rotate_left
        · simp only [Act.put,q1,q2,q3,i64_w,i32_w]
          rfl
        refine done_ (done_of HT_.out (by kernel_rfl)) ?_
        try go_wp2
        go_ret
        exact ⟨by first|rfl|(simp [errW_none,errW_some] <;> rfl)|(simp [*,errW_none,errW_some] <;> rfl),by repeat (first|(with_reducible first|exact HB.out|apply sa|apply sn|apply sd|refine sy ?_ (by assumption))|exact HB.out)⟩
    · rw [if_neg c7] at H
      have c7b0 : (t128 == t139 && (t129 == t140 && (t130 == t141 && (t131 == t142)))) = false:=by simpa using c7
      (try (have c7b1 : decide (t128 = t139 && (t129 == t140 && (t130 == t141 && (t131 == t142)))) = false:=by simpa using c7))
      (try (have c7b2 : (t128 == t139 && (t129 == t140 && (t130 == t141 && (t131 == t142)))) = false:=by simpa using c7))
      (try (have c7b3 : ¬ (t128 = t139 && (t129 == t140 && (t130 == t141 && (t131 == t142)))):=by simpa using c7))
      clear c7;obtain rfl:=Option.some.inj H
      try go_wp2_with (first|((with_reducible refine gate_callee (f:=11) rfl ?_);refine goesL_ (some 10) rfl rfl Try.func11 (by kernel_rfl) rfl #[.agg #[.int .i64 a0_0,.int .i64 a0_1,.int .i64 a0_2,.int .i64 a0_3]] rfl (by (try simp only [List.map_toArray,List.map_cons,List.map_nil]);first|done|rfl|(simp only [List.length_drop,List.length_take];rfl)) ?_;(with_reducible refine (celluloidref07_RGBA.calls k a0_0 a0_1 a0_2 a0_3 true _ A4.out).mono ?_);rintro e w74 ⟨rfl,hb⟩;refine ⟨_,rfl,?_⟩;replace BK127:=am (wz BK127.out (by (with_reducible repeat (first|refine bn ?_ _|refine bd ?_|refine ba ?_ _|refine bf ?_ NB127_137.out _|refine bf ?_ NB127_136.out _));exact BK127.out) hb);replace BK136:=am (bw (g:=gb136) (o:=.cells #[.int .i64 t128,.int .i64 t129,.int .i64 t130,.int .i64 t131] 23 (0,0)) (by (with_reducible repeat (first|refine bn ?_ _|refine bd ?_|refine ba ?_ _));refine bf ?_ NB136_137.out _;(with_reducible repeat (first|refine bn ?_ _|refine bd ?_|refine ba ?_ _));refine bf ?_ NB136_137.out _;(with_reducible repeat (first|refine bn ?_ _|refine bd ?_|refine ba ?_ _));refine bf ?_ NB136_137.out _;(with_reducible repeat (first|refine bn ?_ _|refine bd ?_|refine ba ?_ _));refine bf ?_ NB136_137.out _;(with_reducible repeat (first|refine bn ?_ _|refine bd ?_|refine ba ?_ _));refine bp (cs:=#[.int .i64 t128,.int .i64 t129,.int .i64 t130,.int .i64 0]) ?_ 3 _ rfl;(with_reducible repeat (first|refine bn ?_ _|refine bd ?_|refine ba ?_ _));refine bp (cs:=#[.int .i64 t128,.int .i64 t129,.int .i64 0,.int .i64 0]) ?_ 2 _ rfl;(with_reducible repeat (first|refine bn ?_ _|refine bd ?_|refine ba ?_ _));refine bp (cs:=#[.int .i64 t128,.int .i64 0,.int .i64 0,.int .i64 0]) ?_ 1 _ rfl;(with_reducible repeat (first|refine bn ?_ _|refine bd ?_|refine ba ?_ _));refine bp (cs:=#[.int .i64 0,.int .i64 0,.int .i64 0,.int .i64 0]) ?_ 0 _ rfl;(with_reducible repeat (first|refine bn ?_ _|refine bd ?_|refine ba ?_ _));exact BK136.out) hb);replace BK137:=am (bw (g:=gb137) (o:=.cells #[.int .i64 t132,.int .i64 t133,.int .i64 t134,.int .i64 t135] 23 (0,0)) (by (with_reducible repeat (first|refine bn ?_ _|refine bd ?_|refine ba ?_ _));refine bp (cs:=#[.int .i64 t132,.int .i64 t133,.int .i64 t134,.int .i64 0]) ?_ 3 _ rfl;(with_reducible repeat (first|refine bn ?_ _|refine bd ?_|refine ba ?_ _));refine bp (cs:=#[.int .i64 t132,.int .i64 t133,.int .i64 0,.int .i64 0]) ?_ 2 _ rfl;(with_reducible repeat (first|refine bn ?_ _|refine bd ?_|refine ba ?_ _));refine bp (cs:=#[.int .i64 t132,.int .i64 0,.int .i64 0,.int .i64 0]) ?_ 1 _ rfl;(with_reducible repeat (first|refine bn ?_ _|refine bd ?_|refine ba ?_ _));refine bp (cs:=#[.int .i64 0,.int .i64 0,.int .i64 0,.int .i64 0]) ?_ 0 _ rfl;(with_reducible repeat (first|refine bn ?_ _|refine bd ?_|refine ba ?_ _));refine bf ?_ NB137_136.out _;(with_reducible repeat (first|refine bn ?_ _|refine bd ?_|refine ba ?_ _));refine bf ?_ NB137_136.out _;(with_reducible repeat (first|refine bn ?_ _|refine bd ?_|refine ba ?_ _));refine bf ?_ NB137_136.out _;(with_reducible repeat (first|refine bn ?_ _|refine bd ?_|refine ba ?_ _));refine bf ?_ NB137_136.out _;(with_reducible repeat (first|refine bn ?_ _|refine bd ?_|refine ba ?_ _));exact BK137.out) hb);replace HB:=am (ss (by repeat (first|(with_reducible first|exact HB.out|apply sa|apply sn|apply sd|refine sy ?_ (by assumption))|exact HB.out)) hb);(try clear hb);(try clear hb2);(try clear hk);(try clear hi)))
      replace BK127:=am (bd BK127.out);replace BK136:=am (bd BK136.out);replace BK137:=am (bd BK137.out);replace HB:=am (sd HB.out);refine start_ (n:=14) (S:=fun w' => w'.cell? ⟨gb136,0,none⟩ = some (.int .i64 t128) ∧ w'.cell? ⟨gb136,1,none⟩ = some (.int .i64 t129) ∧ w'.cell? ⟨gb136,2,none⟩ = some (.int .i64 t130) ∧ w'.cell? ⟨gb136,3,none⟩ = some (.int .i64 t131) ∧ w'.cell? ⟨gb127,0,none⟩ = some (.int .i64 a0_0) ∧ w'.cell? ⟨gb127,1,none⟩ = some (.int .i64 a0_1) ∧ w'.cell? ⟨gb127,2,none⟩ = some (.int .i64 a0_2) ∧ w'.cell? ⟨gb127,3,none⟩ = some (.int .i64 a0_3)) (ds:=[]) #[false,false,false,false,false,false,false,false,false,false,false,false,false,false] (by kernel_rfl) rfl rfl ⟨(bc BK136.out 0).trans rfl,(bc BK136.out 1).trans rfl,(bc BK136.out 2).trans rfl,(bc BK136.out 3).trans rfl,(bc BK127.out 0).trans rfl,(bc BK127.out 1).trans rfl,(bc BK127.out 2).trans rfl,(bc BK127.out 3).trans rfl⟩ (fun hHeld => ?_);refine with_tabW celluloidlaw20_PaintFaint.tab4 celluloidlaw20_PaintFaint.bits4 (fun HT_ HW_ => ?_);generalize w74.drew = w75 at BK127 BK136 BK137 HB hHeld ⊢;refine take_ (i:=0) (N:=some 23) (v:=?_) (a':=?_) #[true,false,false,false,false,false,false,false,false,false,false,false,false,false] rfl rfl (take_ofW HT_.out HW_.out (by kernel_rfl)) (fun _ _ _ h => h) (Or.inl ⟨by rfl,?_⟩) hHeld ?_ ?_
      rotate_left
      · rintro w' ⟨s0,s1,s2,s3,s4,s5,s6,s7⟩
        go_simp
        with_reducible rfl
      rotate_left
      · simp only [Act.put,q1,q2,q3,i64_w,i32_w]
        rfl
      refine take_ (i:=1) (N:=some 24) (v:=?_) (a':=?_) #[true,true,false,false,false,false,false,false,false,false,false,false,false,false] rfl rfl (take_ofW HT_.out HW_.out (by kernel_rfl)) (fun _ _ _ h => h) (Or.inl ⟨by rfl,?_⟩) hHeld ?_ ?_
      rotate_left
      · rintro w' ⟨s0,s1,s2,s3,s4,s5,s6,s7⟩
        go_simp
        with_reducible rfl
      rotate_left
      · simp only [Act.put,q1,q2,q3,i64_w,i32_w]
        rfl
      refine one_ (i:=2) (N:=some 25) #[true,true,true,false,false,false,false,false,false,false,false,false,false,false] rfl rfl (one_of HT_.out (by kernel_rfl)) (by decide) (fun K hK => ?_);refine goes_ Try.func13 (by kernel_rfl) rfl #[.agg #[.int .i64 a0_0,.int .i64 a0_1,.int .i64 a0_2,.int .i64 a0_3]] (by rfl) rfl rfl (by (try simp only [List.map_toArray,List.map_cons,List.map_nil]);first|done|rfl|(simp only [List.length_drop,List.length_take];rfl)) ?_
      with_reducible refine (celluloidref20_Faint.calls a0_0 a0_1 a0_2 a0_3 t139 t140 t141 t142 _ A6.out).mono ?_
      rintro e w76 ⟨rfl,hb⟩
      refine ⟨_,rfl,?_⟩;replace BK127:=am (bw (by exact BK127.out) hb);replace BK136:=am (bw (by exact BK136.out) hb);replace BK137:=am (bw (by exact BK137.out) hb);replace HB:=am (ss (by repeat (first|(with_reducible first|exact HB.out|apply sa|apply sn|apply sd|refine sy ?_ (by assumption))|exact HB.out)) hb);(try clear hb);(try clear hb2);(try clear hk);(try clear hi);refine hK.out _ _ ⟨(bc BK136.out 0).trans rfl,(bc BK136.out 1).trans rfl,(bc BK136.out 2).trans rfl,(bc BK136.out 3).trans rfl,(bc BK127.out 0).trans rfl,(bc BK127.out 1).trans rfl,(bc BK127.out 2).trans rfl,(bc BK127.out 3).trans rfl⟩ (fun hHeld => ?_);clear hK K;refine norm_ (a':=?_) ?_ ?_
      rotate_left
      · show Act.put _ (some 25) _ = _
        simp only [Act.put,q1,q2,q3,i64_w,i32_w]
        rfl
      refine pure_ (i:=3) (N:=some 26) (v:=?_) (a':=?_) #[true,true,true,true,false,false,false,false,false,false,false,false,false,false] rfl rfl (any_of HT_.out (by kernel_rfl)) (fun _ _ _ h => h) (Or.inl ⟨by rfl,?_⟩) ?_ ?_
      rotate_left
      · intro w'
        go_simp
        with_reducible rfl
      rotate_left
      · simp only [Act.put,q1,q2,q3,i64_w,i32_w]
        rfl
      refine pure_ (i:=4) (N:=some 27) (v:=?_) (a':=?_) #[true,true,true,true,true,false,false,false,false,false,false,false,false,false] rfl rfl (any_of HT_.out (by kernel_rfl)) (fun _ _ _ h => h) (Or.inl ⟨by rfl,?_⟩) ?_ ?_
      rotate_left
      · intro w'
        go_simp
        with_reducible rfl
      rotate_left
      · simp only [Act.put,q1,q2,q3,i64_w,i32_w]
        rfl
      refine pure_ (i:=5) (N:=some 28) (v:=undef) (a':=?_) #[true,true,true,true,true,true,false,false,false,false,false,false,false,false] rfl rfl (any_of HT_.out (by kernel_rfl)) (fun _ _ _ h => h) (Or.inr ⟨by rfl,rfl⟩) ?_ ?_
      rotate_left
      · simp only [Act.put,q1,q2,q3,i64_w,i32_w]
        rfl
      refine pure_ (i:=6) (N:=some 29) (v:=undef) (a':=?_) #[true,true,true,true,true,true,true,false,false,false,false,false,false,false] rfl rfl (any_of HT_.out (by kernel_rfl)) (fun _ _ _ h => h) (Or.inr ⟨by rfl,rfl⟩) ?_ ?_
      rotate_left
      · simp only [Act.put,q1,q2,q3,i64_w,i32_w]
        rfl
      refine pure_ (i:=7) (N:=some 30) (v:=undef) (a':=?_) #[true,true,true,true,true,true,true,true,false,false,false,false,false,false] rfl rfl (any_of HT_.out (by kernel_rfl)) (fun _ _ _ h => h) (Or.inr ⟨by rfl,rfl⟩) ?_ ?_
      rotate_left
      · simp only [Act.put,q1,q2,q3,i64_w,i32_w]
        rfl
      refine pure_ (i:=8) (N:=some 31) (v:=undef) (a':=?_) #[true,true,true,true,true,true,true,true,true,false,false,false,false,false] rfl rfl (any_of HT_.out (by kernel_rfl)) (fun _ _ _ h => h) (Or.inr ⟨by rfl,rfl⟩) ?_ ?_
      rotate_left
      · simp only [Act.put,q1,q2,q3,i64_w,i32_w]
        rfl
      refine pure_ (i:=9) (N:=some 32) (v:=?_) (a':=?_) #[true,true,true,true,true,true,true,true,true,true,false,false,false,false] rfl rfl (any_of HT_.out (by kernel_rfl)) (fun _ _ _ h => h) (Or.inl ⟨by rfl,?_⟩) ?_ ?_
      rotate_left
      · intro w'
        go_simp
        with_reducible rfl
      rotate_left
      · simp only [Act.put,q1,q2,q3,i64_w,i32_w]
        rfl
      refine pure_ (i:=10) (N:=some 33) (v:=?_) (a':=?_) #[true,true,true,true,true,true,true,true,true,true,true,false,false,false] rfl rfl (any_of HT_.out (by kernel_rfl)) (fun _ _ _ h => h) (Or.inl ⟨by rfl,?_⟩) ?_ ?_
      rotate_left
      · intro w'
        go_simp
        with_reducible rfl
      rotate_left
      · simp only [Act.put,q1,q2,q3,i64_w,i32_w]
        rfl
      refine pure_ (i:=11) (N:=some 34) (v:=undef) (a':=?_) #[true,true,true,true,true,true,true,true,true,true,true,true,false,false] rfl rfl (any_of HT_.out (by kernel_rfl)) (fun _ _ _ h => h) (Or.inr ⟨by rfl,rfl⟩) ?_ ?_
      rotate_left
      · simp only [Act.put,q1,q2,q3,i64_w,i32_w]
        rfl
      refine pure_ (i:=12) (N:=some 35) (v:=?_) (a':=?_) #[true,true,true,true,true,true,true,true,true,true,true,true,true,false] rfl rfl (any_of HT_.out (by kernel_rfl)) (fun _ _ _ h => h) (Or.inl ⟨by rfl,?_⟩) ?_ ?_
      rotate_left
      · intro w'
        go_simp
        with_reducible rfl
      rotate_left
      · simp only [Act.put,q1,q2,q3,i64_w,i32_w]
        rfl
      refine pure_ (i:=13) (N:=some 2) (v:=?_) (a':=?_) #[true,true,true,true,true,true,true,true,true,true,true,true,true,true] rfl rfl (any_of HT_.out (by kernel_rfl)) (fun _ _ _ h => h) (Or.inl ⟨by rfl,?_⟩) ?_ ?_
      rotate_left
      · intro w'
        go_simp
        with_reducible rfl
      rotate_left
      · simp only [Act.put,q1,q2,q3,i64_w,i32_w]
        rfl
      refine done_ (done_of HT_.out (by kernel_rfl)) ?_
      try go_wp2
      go_ret
      exact ⟨by first|rfl|(simp [errW_none,errW_some] <;> rfl)|(simp [*,errW_none,errW_some] <;> rfl),by repeat (first|(with_reducible first|exact HB.out|apply sa|apply sn|apply sd|refine sy ?_ (by assumption))|exact HB.out)⟩
  · replace c5:=Bool.eq_false_iff.mpr c5
    subst c5
    have H1 : (if (t128 == 0 && (t129 == 0 && (t130 == 0 && (t131 == 0)))) = true then (if (t132 == 0 && (t133 == 0 && (t134 == 0 && (t135 == 0)))) = true then ((celluloidlaw20_awake.f k).bind fun t148 => (some t148)) else (some false)) else (some false)) = some r:=by rw [if_neg (show ¬ (false = true) by decide)] at H;exact H
    clear H;have H:=H1;clear H1
    by_cases c77 : (t128 == 0 && (t129 == 0 && (t130 == 0 && (t131 == 0)))) = true
    · rw [if_pos c77] at H
      have c77b0 : (t128 == 0 && (t129 == 0 && (t130 == 0 && (t131 == 0)))) = true:=c77
      (try (have c77b1 : decide (t128 = 0 && (t129 == 0 && (t130 == 0 && (t131 == 0)))) = true:=by simpa using c77))
      (try (have c77b2 : (t128 == 0 && (t129 == 0 && (t130 == 0 && (t131 == 0)))) = true:=by simpa using c77))
      clear c77
      by_cases c78 : (t132 == 0 && (t133 == 0 && (t134 == 0 && (t135 == 0)))) = true
      · rw [if_pos c78] at H
        have c78b0 : (t132 == 0 && (t133 == 0 && (t134 == 0 && (t135 == 0)))) = true:=c78
        (try (have c78b1 : decide (t132 = 0 && (t133 == 0 && (t134 == 0 && (t135 == 0)))) = true:=by simpa using c78))
        (try (have c78b2 : (t132 == 0 && (t133 == 0 && (t134 == 0 && (t135 == 0)))) = true:=by simpa using c78))
        clear c78;replace H:=Option.bind_eq_some_iff.mp H;obtain ⟨t148,A790,H⟩:=H;replace H : (some t148) = some r:=H;have A79:=am A790;clear A790;obtain rfl:=Option.some.inj H
        try go_wp2_with (first|((with_reducible refine gate_callee (f:=11) rfl ?_);refine goesL_ (some 10) rfl rfl Try.func11 (by kernel_rfl) rfl #[.agg #[.int .i64 a0_0,.int .i64 a0_1,.int .i64 a0_2,.int .i64 a0_3]] rfl (by (try simp only [List.map_toArray,List.map_cons,List.map_nil]);first|done|rfl|(simp only [List.length_drop,List.length_take];rfl)) ?_;(with_reducible refine (celluloidref07_RGBA.calls k a0_0 a0_1 a0_2 a0_3 false _ A4.out).mono ?_);rintro e w98 ⟨rfl,hb⟩;refine ⟨_,rfl,?_⟩;replace BK127:=am (wz BK127.out (by (with_reducible repeat (first|refine bn ?_ _|refine bd ?_|refine ba ?_ _|refine bf ?_ NB127_137.out _|refine bf ?_ NB127_136.out _));exact BK127.out) hb);replace BK136:=am (bw (g:=gb136) (o:=.cells #[.int .i64 t128,.int .i64 t129,.int .i64 t130,.int .i64 t131] 23 (0,0)) (by (with_reducible repeat (first|refine bn ?_ _|refine bd ?_|refine ba ?_ _));refine bf ?_ NB136_137.out _;(with_reducible repeat (first|refine bn ?_ _|refine bd ?_|refine ba ?_ _));refine bf ?_ NB136_137.out _;(with_reducible repeat (first|refine bn ?_ _|refine bd ?_|refine ba ?_ _));refine bf ?_ NB136_137.out _;(with_reducible repeat (first|refine bn ?_ _|refine bd ?_|refine ba ?_ _));refine bf ?_ NB136_137.out _;(with_reducible repeat (first|refine bn ?_ _|refine bd ?_|refine ba ?_ _));refine bp (cs:=#[.int .i64 t128,.int .i64 t129,.int .i64 t130,.int .i64 0]) ?_ 3 _ rfl;(with_reducible repeat (first|refine bn ?_ _|refine bd ?_|refine ba ?_ _));refine bp (cs:=#[.int .i64 t128,.int .i64 t129,.int .i64 0,.int .i64 0]) ?_ 2 _ rfl;(with_reducible repeat (first|refine bn ?_ _|refine bd ?_|refine ba ?_ _));refine bp (cs:=#[.int .i64 t128,.int .i64 0,.int .i64 0,.int .i64 0]) ?_ 1 _ rfl;(with_reducible repeat (first|refine bn ?_ _|refine bd ?_|refine ba ?_ _));refine bp (cs:=#[.int .i64 0,.int .i64 0,.int .i64 0,.int .i64 0]) ?_ 0 _ rfl;(with_reducible repeat (first|refine bn ?_ _|refine bd ?_|refine ba ?_ _));exact BK136.out) hb);replace BK137:=am (bw (g:=gb137) (o:=.cells #[.int .i64 t132,.int .i64 t133,.int .i64 t134,.int .i64 t135] 23 (0,0)) (by (with_reducible repeat (first|refine bn ?_ _|refine bd ?_|refine ba ?_ _));refine bp (cs:=#[.int .i64 t132,.int .i64 t133,.int .i64 t134,.int .i64 0]) ?_ 3 _ rfl;(with_reducible repeat (first|refine bn ?_ _|refine bd ?_|refine ba ?_ _));refine bp (cs:=#[.int .i64 t132,.int .i64 t133,.int .i64 0,.int .i64 0]) ?_ 2 _ rfl;(with_reducible repeat (first|refine bn ?_ _|refine bd ?_|refine ba ?_ _));refine bp (cs:=#[.int .i64 t132,.int .i64 0,.int .i64 0,.int .i64 0]) ?_ 1 _ rfl;(with_reducible repeat (first|refine bn ?_ _|refine bd ?_|refine ba ?_ _));refine bp (cs:=#[.int .i64 0,.int .i64 0,.int .i64 0,.int .i64 0]) ?_ 0 _ rfl;(with_reducible repeat (first|refine bn ?_ _|refine bd ?_|refine ba ?_ _));refine bf ?_ NB137_136.out _;(with_reducible repeat (first|refine bn ?_ _|refine bd ?_|refine ba ?_ _));refine bf ?_ NB137_136.out _;(with_reducible repeat (first|refine bn ?_ _|refine bd ?_|refine ba ?_ _));refine bf ?_ NB137_136.out _;(with_reducible repeat (first|refine bn ?_ _|refine bd ?_|refine ba ?_ _));refine bf ?_ NB137_136.out _;(with_reducible repeat (first|refine bn ?_ _|refine bd ?_|refine ba ?_ _));exact BK137.out) hb);replace HB:=am (ss (by repeat (first|(with_reducible first|exact HB.out|apply sa|apply sn|apply sd|refine sy ?_ (by assumption))|exact HB.out)) hb);(try clear hb);(try clear hb2);(try clear hk);(try clear hi);have hnb99:=NB136_137.out;have hnc99:=NB137_136.out;have hcz100_0 : w98.cell? ⟨gb136,0,none⟩ = some (.int .i64 t128):=(bc BK136.out 0).trans rfl;have hcz100_1 : w98.cell? ⟨gb136,1,none⟩ = some (.int .i64 t129):=(bc BK136.out 1).trans rfl;have hcz100_2 : w98.cell? ⟨gb136,2,none⟩ = some (.int .i64 t130):=(bc BK136.out 2).trans rfl;have hcz100_3 : w98.cell? ⟨gb136,3,none⟩ = some (.int .i64 t131):=(bc BK136.out 3).trans rfl;obtain ⟨hfz100_0,hfz100_1,hfz100_2,hfz100_3⟩:=fq4 BK136.out;have hcz101_0 : w98.cell? ⟨gb137,0,none⟩ = some (.int .i64 t132):=(bc BK137.out 0).trans rfl;have hcz101_1 : w98.cell? ⟨gb137,1,none⟩ = some (.int .i64 t133):=(bc BK137.out 1).trans rfl;have hcz101_2 : w98.cell? ⟨gb137,2,none⟩ = some (.int .i64 t134):=(bc BK137.out 2).trans rfl;have hcz101_3 : w98.cell? ⟨gb137,3,none⟩ = some (.int .i64 t135):=(bc BK137.out 3).trans rfl;obtain ⟨hfz101_0,hfz101_1,hfz101_2,hfz101_3⟩:=fq4 BK137.out)|(go_at_call 12;(with_reducible refine (celluloidlaw20_awake.calls k  t148 _ A79.out).mono ?_);rintro e w102 ⟨rfl,hb⟩;replace BK127:=am (bw (by exact BK127.out) hb);replace BK136:=am (bw (by exact BK136.out) hb);replace BK137:=am (bw (by exact BK137.out) hb);replace HB:=am (ss (by repeat (first|(with_reducible first|exact HB.out|apply sa|apply sn|apply sd|refine sy ?_ (by assumption))|exact HB.out)) hb);(try clear hb);(try clear hb2);(try clear hk);(try clear hi)))
        go_ret
        exact ⟨by first|rfl|(simp [errW_none,errW_some] <;> rfl)|(simp [*,errW_none,errW_some] <;> rfl),by repeat (first|(with_reducible first|exact HB.out|apply sa|apply sn|apply sd|refine sy ?_ (by assumption))|exact HB.out)⟩
      · rw [if_neg c78] at H
        have c78b0 : (t132 == 0 && (t133 == 0 && (t134 == 0 && (t135 == 0)))) = false:=by simpa using c78
        (try (have c78b1 : decide (t132 = 0 && (t133 == 0 && (t134 == 0 && (t135 == 0)))) = false:=by simpa using c78))
        (try (have c78b2 : (t132 == 0 && (t133 == 0 && (t134 == 0 && (t135 == 0)))) = false:=by simpa using c78))
        (try (have c78b3 : ¬ (t132 = 0 && (t133 == 0 && (t134 == 0 && (t135 == 0)))):=by simpa using c78))
        clear c78;obtain rfl:=Option.some.inj H
        try go_wp2_with (first|((with_reducible refine gate_callee (f:=11) rfl ?_);refine goesL_ (some 10) rfl rfl Try.func11 (by kernel_rfl) rfl #[.agg #[.int .i64 a0_0,.int .i64 a0_1,.int .i64 a0_2,.int .i64 a0_3]] rfl (by (try simp only [List.map_toArray,List.map_cons,List.map_nil]);first|done|rfl|(simp only [List.length_drop,List.length_take];rfl)) ?_;(with_reducible refine (celluloidref07_RGBA.calls k a0_0 a0_1 a0_2 a0_3 false _ A4.out).mono ?_);rintro e w121 ⟨rfl,hb⟩;refine ⟨_,rfl,?_⟩;replace BK127:=am (wz BK127.out (by (with_reducible repeat (first|refine bn ?_ _|refine bd ?_|refine ba ?_ _|refine bf ?_ NB127_137.out _|refine bf ?_ NB127_136.out _));exact BK127.out) hb);replace BK136:=am (bw (g:=gb136) (o:=.cells #[.int .i64 t128,.int .i64 t129,.int .i64 t130,.int .i64 t131] 23 (0,0)) (by (with_reducible repeat (first|refine bn ?_ _|refine bd ?_|refine ba ?_ _));refine bf ?_ NB136_137.out _;(with_reducible repeat (first|refine bn ?_ _|refine bd ?_|refine ba ?_ _));refine bf ?_ NB136_137.out _;(with_reducible repeat (first|refine bn ?_ _|refine bd ?_|refine ba ?_ _));refine bf ?_ NB136_137.out _;(with_reducible repeat (first|refine bn ?_ _|refine bd ?_|refine ba ?_ _));refine bf ?_ NB136_137.out _;(with_reducible repeat (first|refine bn ?_ _|refine bd ?_|refine ba ?_ _));refine bp (cs:=#[.int .i64 t128,.int .i64 t129,.int .i64 t130,.int .i64 0]) ?_ 3 _ rfl;(with_reducible repeat (first|refine bn ?_ _|refine bd ?_|refine ba ?_ _));refine bp (cs:=#[.int .i64 t128,.int .i64 t129,.int .i64 0,.int .i64 0]) ?_ 2 _ rfl;(with_reducible repeat (first|refine bn ?_ _|refine bd ?_|refine ba ?_ _));refine bp (cs:=#[.int .i64 t128,.int .i64 0,.int .i64 0,.int .i64 0]) ?_ 1 _ rfl;(with_reducible repeat (first|refine bn ?_ _|refine bd ?_|refine ba ?_ _));refine bp (cs:=#[.int .i64 0,.int .i64 0,.int .i64 0,.int .i64 0]) ?_ 0 _ rfl;(with_reducible repeat (first|refine bn ?_ _|refine bd ?_|refine ba ?_ _));exact BK136.out) hb);replace BK137:=am (bw (g:=gb137) (o:=.cells #[.int .i64 t132,.int .i64 t133,.int .i64 t134,.int .i64 t135] 23 (0,0)) (by (with_reducible repeat (first|refine bn ?_ _|refine bd ?_|refine ba ?_ _));refine bp (cs:=#[.int .i64 t132,.int .i64 t133,.int .i64 t134,.int .i64 0]) ?_ 3 _ rfl;(with_reducible repeat (first|refine bn ?_ _|refine bd ?_|refine ba ?_ _));refine bp (cs:=#[.int .i64 t132,.int .i64 t133,.int .i64 0,.int .i64 0]) ?_ 2 _ rfl;(with_reducible repeat (first|refine bn ?_ _|refine bd ?_|refine ba ?_ _));refine bp (cs:=#[.int .i64 t132,.int .i64 0,.int .i64 0,.int .i64 0]) ?_ 1 _ rfl;(with_reducible repeat (first|refine bn ?_ _|refine bd ?_|refine ba ?_ _));refine bp (cs:=#[.int .i64 0,.int .i64 0,.int .i64 0,.int .i64 0]) ?_ 0 _ rfl;(with_reducible repeat (first|refine bn ?_ _|refine bd ?_|refine ba ?_ _));refine bf ?_ NB137_136.out _;(with_reducible repeat (first|refine bn ?_ _|refine bd ?_|refine ba ?_ _));refine bf ?_ NB137_136.out _;(with_reducible repeat (first|refine bn ?_ _|refine bd ?_|refine ba ?_ _));refine bf ?_ NB137_136.out _;(with_reducible repeat (first|refine bn ?_ _|refine bd ?_|refine ba ?_ _));refine bf ?_ NB137_136.out _;(with_reducible repeat (first|refine bn ?_ _|refine bd ?_|refine ba ?_ _));exact BK137.out) hb);replace HB:=am (ss (by repeat (first|(with_reducible first|exact HB.out|apply sa|apply sn|apply sd|refine sy ?_ (by assumption))|exact HB.out)) hb);(try clear hb);(try clear hb2);(try clear hk);(try clear hi);have hnb122:=NB136_137.out;have hnc122:=NB137_136.out;have hcz123_0 : w121.cell? ⟨gb136,0,none⟩ = some (.int .i64 t128):=(bc BK136.out 0).trans rfl;have hcz123_1 : w121.cell? ⟨gb136,1,none⟩ = some (.int .i64 t129):=(bc BK136.out 1).trans rfl;have hcz123_2 : w121.cell? ⟨gb136,2,none⟩ = some (.int .i64 t130):=(bc BK136.out 2).trans rfl;have hcz123_3 : w121.cell? ⟨gb136,3,none⟩ = some (.int .i64 t131):=(bc BK136.out 3).trans rfl;obtain ⟨hfz123_0,hfz123_1,hfz123_2,hfz123_3⟩:=fq4 BK136.out;have hcz124_0 : w121.cell? ⟨gb137,0,none⟩ = some (.int .i64 t132):=(bc BK137.out 0).trans rfl;have hcz124_1 : w121.cell? ⟨gb137,1,none⟩ = some (.int .i64 t133):=(bc BK137.out 1).trans rfl;have hcz124_2 : w121.cell? ⟨gb137,2,none⟩ = some (.int .i64 t134):=(bc BK137.out 2).trans rfl;have hcz124_3 : w121.cell? ⟨gb137,3,none⟩ = some (.int .i64 t135):=(bc BK137.out 3).trans rfl;obtain ⟨hfz124_0,hfz124_1,hfz124_2,hfz124_3⟩:=fq4 BK137.out))
        go_ret
        exact ⟨by first|rfl|(simp [errW_none,errW_some] <;> rfl)|(simp [*,errW_none,errW_some] <;> rfl),by repeat (first|(with_reducible first|exact HB.out|apply sa|apply sn|apply sd|refine sy ?_ (by assumption))|exact HB.out)⟩
    · rw [if_neg c77] at H
      have c77b0 : (t128 == 0 && (t129 == 0 && (t130 == 0 && (t131 == 0)))) = false:=by simpa using c77
      (try (have c77b1 : decide (t128 = 0 && (t129 == 0 && (t130 == 0 && (t131 == 0)))) = false:=by simpa using c77))
      (try (have c77b2 : (t128 == 0 && (t129 == 0 && (t130 == 0 && (t131 == 0)))) = false:=by simpa using c77))
      (try (have c77b3 : ¬ (t128 = 0 && (t129 == 0 && (t130 == 0 && (t131 == 0)))):=by simpa using c77))
      clear c77;obtain rfl:=Option.some.inj H
      try go_wp2_with (first|((with_reducible refine gate_callee (f:=11) rfl ?_);refine goesL_ (some 10) rfl rfl Try.func11 (by kernel_rfl) rfl #[.agg #[.int .i64 a0_0,.int .i64 a0_1,.int .i64 a0_2,.int .i64 a0_3]] rfl (by (try simp only [List.map_toArray,List.map_cons,List.map_nil]);first|done|rfl|(simp only [List.length_drop,List.length_take];rfl)) ?_;(with_reducible refine (celluloidref07_RGBA.calls k a0_0 a0_1 a0_2 a0_3 false _ A4.out).mono ?_);rintro e w143 ⟨rfl,hb⟩;refine ⟨_,rfl,?_⟩;replace BK127:=am (wz BK127.out (by (with_reducible repeat (first|refine bn ?_ _|refine bd ?_|refine ba ?_ _|refine bf ?_ NB127_137.out _|refine bf ?_ NB127_136.out _));exact BK127.out) hb);replace BK136:=am (bw (g:=gb136) (o:=.cells #[.int .i64 t128,.int .i64 t129,.int .i64 t130,.int .i64 t131] 23 (0,0)) (by (with_reducible repeat (first|refine bn ?_ _|refine bd ?_|refine ba ?_ _));refine bf ?_ NB136_137.out _;(with_reducible repeat (first|refine bn ?_ _|refine bd ?_|refine ba ?_ _));refine bf ?_ NB136_137.out _;(with_reducible repeat (first|refine bn ?_ _|refine bd ?_|refine ba ?_ _));refine bf ?_ NB136_137.out _;(with_reducible repeat (first|refine bn ?_ _|refine bd ?_|refine ba ?_ _));refine bf ?_ NB136_137.out _;(with_reducible repeat (first|refine bn ?_ _|refine bd ?_|refine ba ?_ _));refine bp (cs:=#[.int .i64 t128,.int .i64 t129,.int .i64 t130,.int .i64 0]) ?_ 3 _ rfl;(with_reducible repeat (first|refine bn ?_ _|refine bd ?_|refine ba ?_ _));refine bp (cs:=#[.int .i64 t128,.int .i64 t129,.int .i64 0,.int .i64 0]) ?_ 2 _ rfl;(with_reducible repeat (first|refine bn ?_ _|refine bd ?_|refine ba ?_ _));refine bp (cs:=#[.int .i64 t128,.int .i64 0,.int .i64 0,.int .i64 0]) ?_ 1 _ rfl;(with_reducible repeat (first|refine bn ?_ _|refine bd ?_|refine ba ?_ _));refine bp (cs:=#[.int .i64 0,.int .i64 0,.int .i64 0,.int .i64 0]) ?_ 0 _ rfl;(with_reducible repeat (first|refine bn ?_ _|refine bd ?_|refine ba ?_ _));exact BK136.out) hb);replace BK137:=am (bw (g:=gb137) (o:=.cells #[.int .i64 t132,.int .i64 t133,.int .i64 t134,.int .i64 t135] 23 (0,0)) (by (with_reducible repeat (first|refine bn ?_ _|refine bd ?_|refine ba ?_ _));refine bp (cs:=#[.int .i64 t132,.int .i64 t133,.int .i64 t134,.int .i64 0]) ?_ 3 _ rfl;(with_reducible repeat (first|refine bn ?_ _|refine bd ?_|refine ba ?_ _));refine bp (cs:=#[.int .i64 t132,.int .i64 t133,.int .i64 0,.int .i64 0]) ?_ 2 _ rfl;(with_reducible repeat (first|refine bn ?_ _|refine bd ?_|refine ba ?_ _));refine bp (cs:=#[.int .i64 t132,.int .i64 0,.int .i64 0,.int .i64 0]) ?_ 1 _ rfl;(with_reducible repeat (first|refine bn ?_ _|refine bd ?_|refine ba ?_ _));refine bp (cs:=#[.int .i64 0,.int .i64 0,.int .i64 0,.int .i64 0]) ?_ 0 _ rfl;(with_reducible repeat (first|refine bn ?_ _|refine bd ?_|refine ba ?_ _));refine bf ?_ NB137_136.out _;(with_reducible repeat (first|refine bn ?_ _|refine bd ?_|refine ba ?_ _));refine bf ?_ NB137_136.out _;(with_reducible repeat (first|refine bn ?_ _|refine bd ?_|refine ba ?_ _));refine bf ?_ NB137_136.out _;(with_reducible repeat (first|refine bn ?_ _|refine bd ?_|refine ba ?_ _));refine bf ?_ NB137_136.out _;(with_reducible repeat (first|refine bn ?_ _|refine bd ?_|refine ba ?_ _));exact BK137.out) hb);replace HB:=am (ss (by repeat (first|(with_reducible first|exact HB.out|apply sa|apply sn|apply sd|refine sy ?_ (by assumption))|exact HB.out)) hb);(try clear hb);(try clear hb2);(try clear hk);(try clear hi);have hnb144:=NB136_137.out;have hnc144:=NB137_136.out;have hcz145_0 : w143.cell? ⟨gb136,0,none⟩ = some (.int .i64 t128):=(bc BK136.out 0).trans rfl;have hcz145_1 : w143.cell? ⟨gb136,1,none⟩ = some (.int .i64 t129):=(bc BK136.out 1).trans rfl;have hcz145_2 : w143.cell? ⟨gb136,2,none⟩ = some (.int .i64 t130):=(bc BK136.out 2).trans rfl;have hcz145_3 : w143.cell? ⟨gb136,3,none⟩ = some (.int .i64 t131):=(bc BK136.out 3).trans rfl;obtain ⟨hfz145_0,hfz145_1,hfz145_2,hfz145_3⟩:=fq4 BK136.out))
      go_ret
      exact ⟨by first|rfl|(simp [errW_none,errW_some] <;> rfl)|(simp [*,errW_none,errW_some] <;> rfl),by repeat (first|(with_reducible first|exact HB.out|apply sa|apply sn|apply sd|refine sy ?_ (by assumption))|exact HB.out)⟩

end Go.Proofs.Ytmdfcinjmlagcaa.P
