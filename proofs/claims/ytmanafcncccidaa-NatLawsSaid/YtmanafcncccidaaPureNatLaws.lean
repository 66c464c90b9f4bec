/- NatLaws: sums hang on no order; a number times a word is as many sums, for few. -/
import Derived.Test.YtmanafcncccidaaPNatA
import Derived.Test.YtmanafcncccidaaPa8
namespace Go.Proofs.Ytmanafcncccidaa.Pure
open Go.RowKit Go.Proofs.Ytmanafcncccidaa.Pa Go.Proofs.YtmanafcncccidaaW.PrintWords Go.Proofs.YtmanafcncccidaaW.PrintLast Go.Proofs.Ytmanafcncccidaa.Hand Go.Proofs.Ytmanafcncccidaa.Num
set_option linter.unusedVariables false
set_option linter.unusedSimpArgs false

theorem laws_end {a b c : List Int} {x : Nat} (ia : InB W a) (ib : InB W b) (ic : InB W c) (ha : a.length ≤ 40) (hb : b.length ≤ 40) (hc : c.length ≤ 40) (hx : x < 18446744073709551616) (k : Nat) :
    tallysticklaw04_NatLaws.l0 (k + 1) a b c (x : Int) true (dig W (x % 8 * val W a)) ((x % 8 : Nat) : Int) = some true := by
  have fa := Fit.val ia ha
  have fb := Fit.val ib hb
  have fc := Fit.val ic hc
  have hW : Wd (x : Int) := by unfold Wd; omega
  have hm : Int.tmod (x : Int) 8 = ((x % 8 : Nat) : Int) := rfl
  have h8 : Wd ((x % 8 : Nat) : Int) := by unfold Wd; omega
  have l1 := (fa.add fb).dig
  have l2 := (fb.add fc).dig
  have fx : Fit 1 x := by unfold Fit; rw [Nat.pow_one, W_eq]; exact hx
  have l3 := (fa.mul fx).dig
  have l4 := (fb.mul fx).dig
  have e1 : val W b + val W a = val W a + val W b := Nat.add_comm _ _
  have e2 : val W a + val W b + val W c = val W a + (val W b + val W c) := Nat.add_assoc _ _ _
  have e3 : x % 8 * val W a = val W a * (x % 8) := Nat.mul_comm _ _
  have e4 : (val W a + val W b) * x = val W a * x + val W b * x := Nat.add_mul _ _ _
  rw [tallysticklaw04_NatLaws.l0, hm, if_neg (by omega), if_pos rfl, add_eq ia ib (by omega) (by omega), Option.bind_some, add_eq ib ia (by omega) (by omega), Option.bind_some, cmp_eq (dI _) (dI _), Option.bind_some, dV, dV, e1, cmpv_eq, if_pos rfl,
    Option.bind_some, add_eq (dI _) ic (by omega) (by omega), Option.bind_some, add_eq ib ic (by omega) (by omega), Option.bind_some, add_eq ia (dI _) (by omega) (by omega), Option.bind_some, cmp_eq (dI _) (dI _), Option.bind_some, dV, dV, dV, dV, e2, cmpv_eq, if_pos rfl,
    scale_eq ia h8 (by omega), Option.bind_some, cmp_eq (dI _) (dI _), Option.bind_some, dV, dV, Int.toNat_natCast, e3, cmpv_eq, if_pos rfl, Option.bind_some,
    scale_eq (dI _) hW (by omega), Option.bind_some, scale_eq ia hW (by omega), Option.bind_some, scale_eq ib hW (by omega), Option.bind_some, Int.toNat_natCast, add_eq (dI _) (dI _) (by omega) (by omega), Option.bind_some, cmp_eq (dI _) (dI _), Option.bind_some, dV, dV, dV, dV, dV, e4, cmpv_eq]
  rfl
theorem laws_loop {a b c : List Int} {x : Nat} (ia : InB W a) (ib : InB W b) (ic : InB W c) (ha : a.length ≤ 40) (hb : b.length ≤ 40) (hc : c.length ≤ 40) (hx : x < 18446744073709551616) :
    ∀ (d i : Nat), i + d = x % 8 → tallysticklaw04_NatLaws.l0 (d + 1) a b c (x : Int) true (dig W (i * val W a)) (i : Int) = some true
  | 0, i, h => by
    obtain rfl : i = x % 8 := by omega
    exact laws_end ia ib ic ha hb hc hx 0
  | d + 1, i, h => by
    have fa := Fit.val ia ha
    have fi : Fit 1 i := by unfold Fit; rw [Nat.pow_one, W_eq]; omega
    have l1 := (fi.mul fa).dig
    have hm : Int.tmod (x : Int) 8 = ((x % 8 : Nat) : Int) := rfl
    have e : i * val W a + val W a = (i + 1) * val W a := (Nat.succ_mul _ _).symm
    have hw : IntKind.u64.wrap ((i : Int) + 1) = ((i + 1 : Nat) : Int) := by rw [IntKind.wrap_u64]; omega
    rw [tallysticklaw04_NatLaws.l0, hm, if_pos (by omega), add_eq (dI _) ia (by omega) (by omega), Option.bind_some, dV, e, hw]
    exact laws_loop ia ib ic ha hb hc hx d (i + 1) (by omega)
theorem NatLaws (a b c : List Int) (x : Int) (_ : a.length ≤ maxLen) (wa : ∀ x ∈ a, (Lit.int .u64 x).wf = true) (_ : b.length ≤ maxLen) (wb : ∀ x ∈ b, (Lit.int .u64 x).wf = true) (_ : c.length ≤ maxLen) (wc : ∀ x ∈ c, (Lit.int .u64 x).wf = true) (wx : (Lit.int .u64 x).wf = true) :
    ∃ k, tallysticklaw04_NatLaws.f k a b c x = some true := by
  have ia := inB_of_wf wa
  have ib := inB_of_wf wb
  have ic := inB_of_wf wc
  have hx := bounds_u64 wx
  obtain ⟨x, rfl⟩ := Int.eq_ofNat_of_zero_le hx.1
  refine ⟨x % 8 + 1 + 1, ?_⟩
  unfold tallysticklaw04_NatLaws.f
  rw [shown4, Option.bind_some, few_iff, Option.bind_some]
  by_cases h : a.length ≤ 40 ∧ b.length ≤ 40
  · rw [if_pos (decide_eq_true h), few_iff, Option.bind_some]
    by_cases h2 : c.length ≤ 40 ∧ ([] : List Int).length ≤ 40
    · rw [decide_eq_true h2, tallysticklaw04_NatLaws.j0, if_pos rfl]
      have := laws_loop (x := x) ia ib ic h.1 h.2 h2.1 (by omega) (x % 8) 0 (by omega)
      rw [Nat.zero_mul, dig_zero] at this
      exact this
    · rw [decide_eq_false h2, tallysticklaw04_NatLaws.j0, if_neg (by decide)]
  · rw [if_neg (by simpa using h), tallysticklaw04_NatLaws.j0, if_neg (by decide)]
end Go.Proofs.Ytmanafcncccidaa.Pure
