/- The place of any point by a line, and by a circle, is what the document says; the first rises with X alone, the second is the same wherever the point is turned to by its axes: for all points. -/
import Derived.Test.YtdphpilcokloeaaRampC
import Derived.Test.YtdphpilcokloeaaSayRampPlaces
namespace Go.Proofs.Ytdphpilcokloeaa.Pure
open Go.RowKit Go.Proofs.Ytdphpilcokloeaa.P Go.Proofs.YtdphpilcokloeaaW.PrintWords Go.Proofs.YtdphpilcokloeaaW.PrintLast Go.Proofs.YtdphpilcokloeaaW.PrintMore

theorem RampPlaces : celluloidlaw19_RampPlaces.Pure := by
  intro p hp
  obtain ⟨k, hk⟩ : ∃ k : Nat, 4294967296 < k := ⟨4294967297, by omega⟩
  refine ⟨k + 1, ?_⟩
  generalize p.f0 = x
  generalize p.f1 = y
  have e : ∀ a, mn (mx a (-1073741824)) 1073741824 = cl a := fun _ => rfl
  have bx := cl_bd x; have by' := cl_bd y
  unfold celluloidlaw19_RampPlaces.f
  rw [line_eq, Option.bind_some, circle_eq x y (k + 1) (by omega), Option.bind_some, e, e]
  rw [w64_id (n := 128 * ((cl x + 16384) / 128)) (by omega) (by omega), if_neg (by omega), w64_id (n := 128 * ((cl x + 16384) / 128) + 128) (by omega) (by omega), if_neg (by omega), line_eq, Option.bind_some]
  have hne : ((cl x + 16384) / 128 != (cl x + 16384) / 128) = false := by simp
  rw [hne]
  simp only [celluloidlaw19_RampPlaces.j0]
  have hx := sq_bd x; have hy := sq_bd y; have hs := sqs_bd x y
  rw [if_neg (by simp), w64_id (n := cl x * cl x) (by omega) (by omega), w64_id (n := cl y * cl y) (by omega) (by omega), w64_id (n := cl x * cl x + cl y * cl y) (by omega) (by omega)]
  have es : cl x * cl x + cl y * cl y = sqs x y := rfl
  rw [es, ref_root _ (by omega) k (by omega), Option.bind_some]
  have hb := isq_bd (n := (sqs x y).toNat) (by omega)
  have ec : circS x y = (isq (sqs x y).toNat : Int) / 64 := rfl
  obtain ⟨r, hr⟩ : ∃ r, r = isq (sqs x y).toNat := ⟨_, rfl⟩
  rw [← hr] at hb ec ⊢
  rw [Int.tdiv_eq_ediv_of_nonneg (by omega), w64_id (by omega) (by omega), if_pos ec, circle_eq (cl y) (cl x) k hk, Option.bind_some]
  have e1 : circS (cl y) (cl x) = circS x y := by
    unfold circS sqs; rw [cl_cl, cl_cl, Int.add_comm]
  have e2 : ∀ z, z = -(cl x) → circS z (cl y) = circS x y := by
    rintro z rfl
    unfold circS sqs; rw [cl_cl, cl_neg, Int.neg_mul_neg]
  rw [if_pos e1.symm, circle_eq _ (cl y) k hk, Option.bind_some, if_pos (e2 _ (by first | rfl | (rw [w64_id (by omega) (by omega)]))).symm, awake_eq k (by omega)]
  rfl

end Go.Proofs.Ytdphpilcokloeaa.Pure
