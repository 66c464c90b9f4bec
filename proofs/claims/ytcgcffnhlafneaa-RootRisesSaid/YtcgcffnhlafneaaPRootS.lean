/- Facts under the laws of roots that ask nothing of the document's answer. -/
import Derived.Test.YtcgcffnhlafneaaPQuotA
import Derived.Test.YtcgcffnhlafneaaHRootB
import Derived.Test.YtcgcffnhlafneaaPa1
namespace Go.Proofs.Ytcgcffnhlafneaa.Pure
open Go.RowKit Go.Proofs.Ytcgcffnhlafneaa.Pa Go.Proofs.YtcgcffnhlafneaaW.PrintWords Go.Proofs.YtcgcffnhlafneaaW.PrintLast Go.Proofs.Ytcgcffnhlafneaa.Hand Go.Proofs.Ytcgcffnhlafneaa.Num
set_option linter.unusedVariables false
set_option linter.unusedSimpArgs false

theorem sqrt_eq {a : List Int} (ha : InB W a) (la : a.length ≤ 1000) : root_Sqrt.f a = some (dig W (isq (val W a)), dig W (val W a - isq (val W a) * isq (val W a))) := by
  unfold root_Sqrt.f RLIM; rw [if_pos ⟨inb_of ha, by omega⟩]
theorem isq_ten : isq 10 = 3 := isq_of (by decide) (by decide)
theorem shown12 : tallysticklaw12_shown.f = some true := by
  unfold tallysticklaw12_shown.f
  have h10 : val W [(10 : Int)] = 10 := by decide +kernel
  rw [sqrt_eq (a := [10]) (inB_cons.2 ⟨by rw [W_eq]; omega, inB_nil _⟩) (by decide), h10, isq_ten]
  decide +kernel
theorem Fit.isq {k n : Nat} (h : Fit k n) : Fit k (Hand.isq n) := h.le (isq_le_self n)
theorem isq_ge {n y : Nat} : y * y ≤ n ↔ y ≤ isq n := by
  constructor
  · intro h
    rcases Nat.lt_or_ge (isq n) y with h1 | h1
    · have := Nat.mul_le_mul (show isq n + 1 ≤ y from h1) (show isq n + 1 ≤ y from h1)
      have := (isq_spec n).2
      omega
    · exact h1
  · intro h
    exact Nat.le_trans (Nat.mul_le_mul h h) (isq_spec n).1
theorem two_digit : ([2] : List Int) = dig V 2 := by decide +kernel
end Go.Proofs.Ytcgcffnhlafneaa.Pure
