/- WordGcds: a greatest divisor divides both, and none that is greater does among few. -/
import Derived.Test.YtnmfinhmhmepdaaPWordA
import Derived.Test.YtnmfinhmhmepdaaPa6
namespace Go.Proofs.Ytnmfinhmhmepdaa.Pure
open Go.RowKit Go.Proofs.Ytnmfinhmhmepdaa.Pa Go.Proofs.YtnmfinhmhmepdaaW.PrintWords Go.Proofs.YtnmfinhmhmepdaaW.PrintMore Go.Proofs.YtnmfinhmhmepdaaW.PrintLast Go.Proofs.Ytnmfinhmhmepdaa.Hand Go.Proofs.Ytnmfinhmhmepdaa.Num
set_option linter.unusedVariables false
set_option linter.unusedSimpArgs false

theorem tmod_nat (x y : Nat) : Int.tmod (x : Int) (y : Int) = ((x % y : Nat) : Int) := rfl
theorem WordGcds : tallysticklaw01_WordGcds.Pure := by
  intro a b c wa wb wc
  have ha := wd_of wa
  have hb := wd_of wb
  have hc := wd_of wc
  refine ⟨0 + 1, ?_⟩
  unfold tallysticklaw01_WordGcds.f
  rw [shown1, Option.bind_some, wgcd ha hb, Option.bind_some]
  obtain ⟨x, rfl⟩ := Int.eq_ofNat_of_zero_le ha.1
  obtain ⟨y, rfl⟩ := Int.eq_ofNat_of_zero_le hb.1
  obtain ⟨z, rfl⟩ := Int.eq_ofNat_of_zero_le hc.1
  simp only [Int.toNat_natCast]
  have hx := ha.2
  have hy := hb.2
  by_cases h0 : ((x : Nat) : Int) = 0
  · have hx0 : x = 0 := by omega
    rw [if_pos h0, tallysticklaw01_WordGcds.j0, if_pos rfl, if_pos rfl, hx0, Nat.gcd_zero_left, IntKind.wrap_u64, show (((0 : Nat) : Int) + (y : Int)) % 18446744073709551616 = (y : Int) by omega, beq_self_eq_true]
  · rw [if_neg h0]
    by_cases h1 : y = 0
    · rw [h1, show (((0 : Nat) : Int) == 0) = true from rfl, tallysticklaw01_WordGcds.j0, if_pos rfl, if_pos rfl, Nat.gcd_zero_right, IntKind.wrap_u64, show ((x : Int) + ((0 : Nat) : Int)) % 18446744073709551616 = (x : Int) by omega, beq_self_eq_true]
    · have e : (((y : Nat) : Int) == 0) = false := by rw [beq_eq_false_iff_ne]; omega
      have hg : 0 < Nat.gcd x y := Nat.gcd_pos_of_pos_left _ (by omega)
      have m1 : x % Nat.gcd x y = 0 := Nat.mod_eq_zero_of_dvd (Nat.gcd_dvd_left x y)
      have m2 : y % Nat.gcd x y = 0 := Nat.mod_eq_zero_of_dvd (Nat.gcd_dvd_right x y)
      have hgc : Nat.gcd y x = Nat.gcd x y := Nat.gcd_comm y x
      have hgd : x % z = 0 → y % z = 0 → Nat.gcd x y % z = 0 := fun p q => Nat.mod_eq_zero_of_dvd (Nat.dvd_gcd (Nat.dvd_of_mod_eq_zero p) (Nat.dvd_of_mod_eq_zero q))
      have hw := wgcd hb ha
      simp only [Int.toNat_natCast, hgc] at hw
      generalize Nat.gcd x y = g at *
      rw [e, tallysticklaw01_WordGcds.j0, if_neg (by decide)]
      simp only [tmod_nat]
      have fin : (if (true : Bool) = true then (if ((g : Nat) : Int) > 0 then (if ((g : Nat) : Int) = 0 then (none) else (if ((x % g : Nat) : Int) = 0 then (if ((y % g : Nat) : Int) = 0 then ((word_Gcd.f (y : Int) (x : Int)).bind fun t => (some (((g : Nat) : Int) == t))) else (some false)) else (some false))) else (some false)) else (some false)) = some true := by
        rw [if_pos rfl, if_pos (by omega), if_neg (by omega), if_pos (by omega), if_pos (by omega), hw, Option.bind_some, beq_self_eq_true]
      by_cases c1 : ((z : Nat) : Int) > 0
      · rw [if_pos c1, if_neg (by omega)]
        by_cases c2 : ((x % z : Nat) : Int) = 0
        · rw [if_pos c2]
          by_cases c3 : ((y % z : Nat) : Int) = 0
          · have := hgd (by omega) (by omega)
            rw [if_pos c3, if_pos (by omega)]
            exact fin
          · rw [if_neg c3]
            exact fin
        · rw [if_neg c2]
          exact fin
      · rw [if_neg c1]
        exact fin
end Go.Proofs.Ytnmfinhmhmepdaa.Pure
