/- MontNeg: a form's number, times m, and 1 more, is a multiple of 2^32: for every number of 32 bits. -/
import Derived.Test.YtjejkkjoplphfaaHMontA
import Derived.Test.YtjejkkjoplphfaaPa4
import Derived.OpenShut
namespace Go.Proofs.Ytjejkkjoplphfaa.Pure
open Go.RowKit Go.Proofs.Ytjejkkjoplphfaa.Pa Go.Proofs.YtjejkkjoplphfaaW.PrintWords Go.Proofs.YtjejkkjoplphfaaW.PrintLast Go.Proofs.Ytjejkkjoplphfaa.Hand

theorem MontNeg : tallysticklaw03_MontNeg.Pure := by
  intro a0 hw
  have hb := bounds_u32 hw
  obtain ⟨m, rfl⟩ := Int.eq_ofNat_of_zero_le hb.1
  unfold tallysticklaw03_MontNeg.f
  rw [shown_true, Option.bind_some]
  by_cases h : m % 2 = 0 ∨ m < 3 ∨ 2147483648 ≤ m
  · rw [make_bad (by omega) h, Option.bind_some, if_pos rfl, if_neg (by decide)]
  · obtain ⟨n, F, e⟩ := make_form (a0 := m) (by omega) (by omega) (by omega)
    rw [e, Option.bind_some, if_pos rfl, if_pos rfl, if_pos rfl]
    have hge := F.ge
    have h0 : ((n : Int) * (m : Int) + 1) = ((n * m + 1 : Nat) : Int) := rfl
    have h1 : (((n : Int) * (m : Int)) + 1) % 4294967296 = 0 := by
      have := Nat.mod_eq_zero_of_dvd F.dvd
      rw [h0]; omega
    have h2 : 4294967296 % m < m := Nat.mod_lt _ (by omega)
    have h3 : 4294967296 % m * (4294967296 % m) % m < m := Nat.mod_lt _ (by omega)
    have h2' : ((4294967296 % m : Nat) : Int) < (m : Int) := by omega
    have h3' : ((4294967296 % m * (4294967296 % m) % m : Nat) : Int) < (m : Int) := by omega
    rw [if_pos h1, if_pos h2', decide_eq_true h3']
end Go.Proofs.Ytjejkkjoplphfaa.Pure
