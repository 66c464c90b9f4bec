/- nat.Low by hand: a number's lowest bits: the row of the value's rest. Conditions: words, not too many. -/
import Derived.Test.YtgoglfojjpibnaaHNatU
namespace Go.Proofs.Ytgoglfojjpibnaa.Hand
open Go.RowKit Go.Proofs.YtgoglfojjpibnaaW.PrintWords Go.Proofs.YtgoglfojjpibnaaW.PrintMore Go.Proofs.Ytgoglfojjpibnaa.Num
set_option linter.unusedVariables false
set_option linter.unusedSimpArgs false
attribute [local go_sem] Oper.semAt_some max2_int min2_int max_two min_two

/-- What a call that hands back its argument's words, or new ones, leaves. -/
def SharePost (P0_ : Nat → Prop) (r : List Int) (w : World) (e : Ending) (w' : World) : Prop := ∃ v : Value, e = .returned v ∧ Vw w' w.heap.size (fun k => P0_ k ∨ w.heap.size ≤ k) v r ∧ Below w.heap.size w w'
theorem Rd.drew {w : World} {A : Option Addr} {n : Nat} {l : List Int} (h : Rd w A n l) : Rd w.drew A n l := h
theorem low_val {a : List Int} (ha : InB W a) {N Q R : Nat} (hN : N = 64 * Q + R) (hR : R < 64) (hQ : Q < a.length) : val W (a.take Q ++ [((((a.getD Q 0).toNat % 2 ^ R : Nat)) : Int)]) = val W a % 2 ^ N := by
  have hl : (a.take Q).length = Q := by simp; omega
  rw [val_snoc, hl, Int.toNat_natCast, hN, Nat.pow_add, ← W_pow, Nat.mod_mul, val_take_mod W_pos ha Q (by omega), ← val_drop_div W_pos ha Q (by omega), val_mod_pow hR, List.getD_eq_getElem?_getD, List.getD_eq_getElem?_getD, List.getElem?_drop, Nat.add_zero]
theorem mask_at (x R : Nat) (hx : x < 18446744073709551616) (hR : R < 64) : bits BinOp.and IntKind.u64 (x : Int) (((2 ^ R - 1 : Nat)) : Int) = ((x % 2 ^ R : Nat) : Int) := by
  have h1 : 2 ^ R ≤ 2 ^ 63 := Nat.pow_le_pow_right (by decide) (by omega)
  rw [bits_and_u64_nat x _ hx (by omega), Nat.and_two_pow_sub_one_eq_mod]

theorem mask_wr (R : Nat) (hR : R < 64) : IntKind.u64.wrap (IntKind.u64.wrap (2 ^ R) - 1) = ((2 ^ R - 1 : Nat) : Int) := by
  have h1 : 2 ^ R ≤ 2 ^ 63 := Nat.pow_le_pow_right (by decide) (by omega)
  have h2 := Nat.two_pow_pos R
  have e : ((2 : Int) ^ R) = ((2 ^ R : Nat) : Int) := by simp
  rw [IntKind.wrap_u64, IntKind.wrap_u64, e]
  generalize 2 ^ R = p at *
  omega

def nat_Low.f (l0 : List Int) (a1 : Int) : Option (List Int) := if inb l0 = true ∧ l0.length ≤ LIM ∧ a1 ≤ NLIM then some (dig W (val W l0 % 2 ^ a1.toNat)) else none
end Go.Proofs.Ytgoglfojjpibnaa.Hand
