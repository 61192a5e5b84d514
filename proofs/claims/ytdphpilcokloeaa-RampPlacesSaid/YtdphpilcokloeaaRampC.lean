/- The place of a point by a line and by a circle. -/
import Derived.Test.YtdphpilcokloeaaRampAwake
import Derived.Test.YtdphpilcokloeaaRefRoot
import Derived.Test.YtdphpilcokloeaaPx14
namespace Go.Proofs.Ytdphpilcokloeaa.P
open Go.RowKit Go.Proofs.YtdphpilcokloeaaW.PrintWords Go.Proofs.YtdphpilcokloeaaW.PrintLast Go.Proofs.YtdphpilcokloeaaW.PrintMore

/-- A part that is brought to an end. -/
def cl (n : Int) : Int := mn (mx n (-1073741824)) 1073741824
theorem cl_bd (n : Int) : -1073741824 ≤ cl n ∧ cl n ≤ 1073741824 := by unfold cl mn mx; omega
theorem cl_cl (n : Int) : cl (cl n) = cl n := by unfold cl mn mx; omega
theorem cl_neg (n : Int) : cl (-(cl n)) = -(cl n) := by unfold cl mn mx; omega
theorem cl_cases (n : Int) : cl n = if n > 1073741824 then 1073741824 else if n < -1073741824 then -1073741824 else n := by unfold cl mn mx; omega
theorem line_eq (x y : Int) : ramp_Line.f x y = some ((cl x + 16384) / 128) := rfl
/-- The sum of two squares. -/
def sqs (x y : Int) : Int := cl x * cl x + cl y * cl y
theorem sq_bd (x : Int) : 0 ≤ cl x * cl x ∧ cl x * cl x ≤ 1152921504606846976 := by
  obtain ⟨h0, h1⟩ := cl_bd x
  have := mul_bound (a := cl x) (b := cl x) (L := 1073741824) (M := 1073741824) (by omega) (by omega)
  refine ⟨?_, by omega⟩
  rcases Int.le_total 0 (cl x) with h | h
  · exact Int.mul_nonneg h h
  · exact Int.mul_nonneg_of_nonpos_of_nonpos h h
theorem sqs_bd (x y : Int) : 0 ≤ sqs x y ∧ sqs x y ≤ 2305843009213693952 := by
  have := sq_bd x; have := sq_bd y; unfold sqs; omega
theorem isq_bd {n : Nat} (h : n ≤ 2305843009213693952) : isq n ≤ 1518500250 := isq_le (by omega)
/-- The place by a circle. -/
def circS (x y : Int) : Int := (isq (sqs x y).toNat : Int) / 64
theorem circle_eq (x y : Int) (k : Nat) (hk : 4294967296 < k) : ramp_Circle.f k x y = some (circS x y) := by
  unfold ramp_Circle.f circS
  have e : ∀ a, mn (mx a (-1073741824)) 1073741824 = cl a := fun _ => rfl
  rw [e, e]
  have hx := sq_bd x; have hy := sq_bd y; have hs := sqs_bd x y
  rw [w64_id (n := cl x * cl x) (by omega) (by omega), w64_id (n := cl y * cl y) (by omega) (by omega), w64_id (n := cl x * cl x + cl y * cl y) (by omega) (by omega)]
  have es : cl x * cl x + cl y * cl y = sqs x y := rfl
  rw [es, root_eq _ (by omega) k hk, Option.bind_some]
  have hb := isq_bd (n := (sqs x y).toNat) (by omega)
  obtain ⟨r, hr⟩ : ∃ r, r = isq (sqs x y).toNat := ⟨_, rfl⟩
  rw [← hr] at hb ⊢
  rw [Int.tdiv_eq_ediv_of_nonneg (by omega), w64_id (by omega) (by omega)]

end Go.Proofs.Ytdphpilcokloeaa.P
