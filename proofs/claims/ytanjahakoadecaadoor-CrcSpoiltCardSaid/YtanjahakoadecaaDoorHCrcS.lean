/- Facts of sums and of the number of bytes: a text and its four bytes, one byte of them another: they do not fit. No program in sight. -/
import Derived.Test.YtanjahakoadecaaDoorHCrcD
namespace Go.Proofs.YtanjahakoadecaaDoor.Hand
open Go.RowKit
set_option linter.unusedVariables false
set_option linter.unusedSimpArgs false

theorem numF_inj : ∀ (l l' : List UInt8) (v v' : Nat), l.length = l'.length → numF l v = numF l' v' → v = v' ∧ l = l'
  | [], [], v, v', _, h => ⟨h, rfl⟩
  | b :: l, b' :: l', v, v', hl, h => by
    obtain ⟨h1, h2⟩ := numF_inj l l' (v * 256 + b.toNat) (v' * 256 + b'.toNat) (by simpa using hl) h
    have hb := b.toNat_lt
    have hb' := b'.toNat_lt
    have e1 : b.toNat = b'.toNat := by omega
    exact ⟨by omega, by rw [h2, UInt8.toNat_inj.1 e1]⟩
/-- D a text, T four bytes whose number is D's sum; one byte of them another. -/
theorem spoilt_plain {D T : List UInt8} {i : Nat} {c : UInt8} (hT : numF T 0 = 4294967295 ^^^ crcFold D 4294967295) (hi : i < (D ++ T).length) (hc : (D ++ T)[i] ≠ c) :
    numF (((D ++ T).set i c).drop D.length) 0 ≠ 4294967295 ^^^ crcFold (((D ++ T).set i c).take D.length) 4294967295 := by
  rcases Nat.lt_or_ge i D.length with h | h
  · rw [List.set_append_left i c h, List.drop_left' (by rw [List.length_set]), List.take_left' (by rw [List.length_set]), hT]
    intro e
    rw [List.getElem_append_left h] at hc
    exact crcFold_set D i c h (by decide) hc (xor_right_inj e).symm
  · rw [List.set_append_right i c h, List.drop_left' rfl, List.take_left' rfl, ← hT]
    intro e
    have h2 := (numF_inj _ _ 0 0 (by rw [List.length_set]) e).2
    rw [List.getElem_append_right h] at hc
    have hj : i - D.length < T.length := by rw [List.length_append] at hi; omega
    apply hc
    have h3 := congrArg (fun l => l[i - D.length]?) h2
    simp only [List.getElem?_set_self hj, List.getElem?_eq_getElem hj] at h3
    exact (Option.some.inj h3).symm
end Go.Proofs.YtanjahakoadecaaDoor.Hand
