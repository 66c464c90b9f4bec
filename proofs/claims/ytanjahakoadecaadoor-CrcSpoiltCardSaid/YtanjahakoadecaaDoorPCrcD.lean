/- A record's bytes, one bit turned: the sum isn't right. -/
import Derived.Test.YtanjahakoadecaaDoorPCrcC
import Derived.Test.YtanjahakoadecaaDoorHCrcT
namespace Go.Proofs.YtanjahakoadecaaDoor.Pure
open Go.RowKit Go.Proofs.YtanjahakoadecaaDoor.Pb Go.Proofs.YtanjahakoadecaaDoorW.PrintWords Go.Proofs.YtanjahakoadecaaDoorW.PrintLast Go.Proofs.YtanjahakoadecaaDoorW.PrintMore Go.Proofs.YtanjahakoadecaaDoor.Hand Go.Proofs.YtanjahakoadecaaDoor.Num
set_option linter.unusedVariables false
set_option linter.unusedSimpArgs false

theorem sumOf_nat (t : List Int) : sumOf t = ((4294967295 ^^^ crcFold (strOfNums t).data.toList 4294967295 : Nat) : Int) := by
  unfold sumOf
  have h : (4294967295 ^^^ crcFold (strOfNums t).data.toList 4294967295) < 4294967296 := Nat.xor_lt_two_pow (n := 32) (by decide) (crcFold_lt _ (by decide))
  generalize (4294967295 ^^^ crcFold (strOfNums t).data.toList 4294967295) = y at *
  rw [IntKind.wrap_u64]
  omega
theorem spoilt_sum {t : List Int} {S S' : ByteArray} {n m b : Nat} (hS : S = strOfNums (t ++ numT (sumOf t) 4)) (hn : n < S.size) (hm : m ≤ 7) (hb : b = (S.data.toList.getD n 0).toNat) (hS' : S' = turnedS S n (b ^^^ 2 ^ m)) :
    ¬ ((numF (S'.extract (S'.size - 4) S'.size).data.toList 0 : Nat) : Int) = ((4294967295 ^^^ crcFold (S'.extract 0 (S'.size - 4)).data.toList 4294967295 : Nat) : Int) := by
  obtain ⟨D, hD⟩ : ∃ D, D = (strOfNums t).data.toList := ⟨_, rfl⟩
  obtain ⟨T, hT⟩ : ∃ T : List UInt8, T = (numT (sumOf t) 4).map fun n => UInt8.ofNat n.toNat := ⟨_, rfl⟩
  have hdt : S.data.toList = D ++ T := by rw [hS, hD, hT, strOfNums_data, strOfNums_data, List.map_append]
  have hDl : D.length = t.length := by rw [hD, strOfNums_data, List.length_map]
  have hTl : T.length = 4 := by rw [hT, List.length_map, numT_length]
  have hsz : S.size = D.length + 4 := by
    have : S.data.toList.length = D.length + 4 := by rw [hdt, List.length_append, hTl]
    exact this
  have hs' : S'.size = D.length + 4 := by rw [hS', turnedS_size, hsz]
  have hd' : S'.data.toList = (D ++ T).set n (UInt8.ofNat (b ^^^ 2 ^ m)) := by rw [hS', turnedS_data, hdt]
  have hnum : numF T 0 = 4294967295 ^^^ crcFold D 4294967295 := by
    rw [hT, sumOf_nat, hD]
    exact numF_numT _ (Nat.xor_lt_two_pow (n := 32) (by decide) (crcFold_lt _ (by decide)))
  have hl : n < (D ++ T).length := by rw [List.length_append, hTl]; omega
  have hbl : b = ((D ++ T)[n]).toNat := by rw [hb, hdt, List.getD_eq_getElem?_getD, List.getElem?_eq_getElem hl]; rfl
  have hb256 : b < 256 := by rw [hbl]; exact UInt8.toNat_lt _
  have hp : 2 ^ m < 256 := Nat.lt_of_le_of_lt (Nat.pow_le_pow_right (by decide) hm) (by decide)
  have hx : b ^^^ 2 ^ m < 256 := Nat.xor_lt_two_pow (n := 8) hb256 hp
  have hc : (D ++ T)[n] ≠ UInt8.ofNat (b ^^^ 2 ^ m) := fun e => by
    have e2 := congrArg UInt8.toNat e
    rw [← hbl, UInt8.toNat_ofNat', Nat.mod_eq_of_lt hx] at e2
    have e3 := xor_right_inj (c := b) (a := 0) (b := 2 ^ m) (by rw [Nat.xor_zero]; exact e2)
    have := Nat.pow_pos (n := m) (show 0 < 2 by decide)
    omega
  have h := spoilt_plain hnum hl hc
  rw [hs', ByteArray.data_extract, ByteArray.data_extract, Array.toList_extract, Array.toList_extract, hd', Nat.add_sub_cancel]
  intro e
  apply h
  have e := Int.ofNat.inj e
  simp only [List.extract_eq_take_drop, List.drop_zero, Nat.sub_zero] at e
  rw [List.take_of_length_le (by rw [List.length_drop, List.length_set, List.length_append, hTl]; omega)] at e
  exact e
end Go.Proofs.YtanjahakoadecaaDoor.Pure
