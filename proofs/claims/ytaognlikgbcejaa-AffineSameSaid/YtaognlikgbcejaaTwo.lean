/- Two operations that are ready, off the region's table (a word that a trimmed WTab lacks). -/
import Derived.Test.YtaognlikgbcejaaWTab
namespace Go.Proofs.Ytaognlikgbcejaa.P
open Go.Proofs.YtaognlikgbcejaaW.PrintLast
theorem two_of {md : Region.Mode} {ops : Array Oper} {T : Bool × List (List Nat × List Nat)} {l li lj : Array Bool} {i j : Nat} (hT : rtab md ops = T) (h : (readyT T.2 l.toList == [i, j] && l.toList.set i true == li.toList && l.toList.set j true == lj.toList) = true) :
    (Region.ready md ops l == [i, j] && l.setIfInBounds i true == li && l.setIfInBounds j true == lj) = true := by
  cases hT
  rw [Bool.and_eq_true, Bool.and_eq_true] at h ⊢
  exact ⟨⟨ready_eq (md := md) (ops := ops) (l := l) ▸ h.1.1, set_of h.1.2⟩, set_of h.2⟩
end Go.Proofs.Ytaognlikgbcejaa.P
