/- A string with one byte another: its bytes, how it is read out of memory; the statements' own example. -/
import Derived.Test.YtanjahakoadecaaDoorHCrcP
import Derived.Test.YtanjahakoadecaaDoorWWords
import Derived.Lib.ConvBytes
namespace Go.Proofs.YtanjahakoadecaaDoor.Hand
open Go.RowKit Go.Proofs.YtanjahakoadecaaDoorW.PrintWords Go.Proofs.YtanjahakoadecaaDoorW.PrintMore
set_option linter.unusedVariables false
set_option linter.unusedSimpArgs false

/-- The string with a byte's bit turned. -/
def turnedS (s : ByteArray) (n c : Nat) : ByteArray := strOfNums ((s.data.toList.map fun b => ((b.toNat : Nat) : Int)).set n (c : Int))
theorem turnedS_data (s : ByteArray) (n c : Nat) : (turnedS s n c).data.toList = s.data.toList.set n (UInt8.ofNat c) := by
  unfold turnedS
  rw [strOfNums_data, List.map_set, List.map_map]
  have e : ((fun n : Int => UInt8.ofNat n.toNat) ∘ fun b : UInt8 => ((b.toNat : Nat) : Int)) = id := by
    funext b
    simp
  rw [e, List.map_id]
  rfl
theorem turnedS_size (s : ByteArray) (n c : Nat) : (turnedS s n c).size = s.size := by
  unfold turnedS
  rw [strOfNums_size]
  simp
theorem turned_ne {s : ByteArray} {n b m : Nat} (hn : n < s.size) (hm : m ≤ 7) (hb : b = (s.data.toList.getD n 0).toNat) :
    ¬ (((4294967295 ^^^ crcFold (turnedS s n (b ^^^ 2 ^ m)).data.toList 4294967295 : Nat) : Int) = ((4294967295 ^^^ crcFold s.data.toList 4294967295 : Nat) : Int)) := by
  intro h
  have h1 := xor_right_inj (Int.ofNat.inj h)
  rw [turnedS_data] at h1
  have hl : n < s.data.toList.length := hn
  have hbl : b = (s.data.toList[n]).toNat := by rw [hb, List.getD_eq_getElem?_getD, List.getElem?_eq_getElem hl]; rfl
  have hb256 : b < 256 := by rw [hbl]; exact UInt8.toNat_lt _
  have hp : 2 ^ m < 256 := Nat.lt_of_le_of_lt (Nat.pow_le_pow_right (by decide) hm) (by decide)
  have hx : b ^^^ 2 ^ m < 256 := Nat.xor_lt_two_pow (n := 8) hb256 hp
  refine crcFold_set s.data.toList n (UInt8.ofNat (b ^^^ 2 ^ m)) hl (by decide) (fun e => ?_) h1
  have e2 := congrArg UInt8.toNat e
  rw [← hbl, UInt8.toNat_ofNat', Nat.mod_eq_of_lt hx] at e2
  have e3 := xor_right_inj (c := b) (a := 0) (b := 2 ^ m) (by rw [Nat.xor_zero]; exact e2)
  have := Nat.pow_pos (n := m) (show 0 < 2 by decide)
  omega
theorem turned_reads {s : ByteArray} {W : World} {B n c : Nat} (hn : n < s.size) (hl : s.size ≤ 4000) (hcells : ∀ j, j < s.size → W.cell? ⟨B, j, none⟩ = some (.int .u8 ((s.data.toList.getD j 0).toNat : Int))) :
    ReadsInt (W.setCell ⟨B, n, none⟩ (.int .u8 (c : Int))) .u8 (some ⟨B, 0, none⟩) s.size ((s.data.toList.map fun b => ((b.toNat : Nat) : Int)).set n (c : Int)) := by
  refine ⟨by simp, by omega, fun _ => ⟨_, rfl, fun j hj => ?_⟩⟩
  rw [Addr.add_lit, Nat.zero_add]
  have hjl : j < s.data.toList.length := hj
  by_cases e : n = j
  · subst e
    rw [World.cell?_setCell_same' _ _ _ (by rw [hcells n hj]; rfl)]
    rw [List.getD_eq_getElem?_getD, List.getElem?_set_self (by rw [List.length_map]; exact hjl)]
    rfl
  · rw [World.cell?_setCell_other W ⟨B, n, none⟩ ⟨B, j, none⟩ (.int .u8 (c : Int)) (by intro h; cases h; exact e rfl), hcells j hj]
    rw [List.getD_eq_getElem?_getD, List.getD_eq_getElem?_getD, List.getElem?_set_ne e, List.getElem?_map, List.getElem?_eq_getElem hjl]
    rfl
/-! ### the walk -/
theorem crc_shown (w : World) : Calls Tryd.prog 8 #[] w fun e w' => e = .returned (.bool true) ∧ w' = w := by
  have hs := crc_sum (⟨#[49, 50, 51, 52, 53, 54, 55, 56, 57]⟩ : ByteArray) w (by decide)
  have e : (4294967295 ^^^ crcFold (⟨#[49, 50, 51, 52, 53, 54, 55, 56, 57]⟩ : ByteArray).data.toList 4294967295 : Nat) = 3421780262 := by decide +kernel
  rw [e] at hs
  have HS := Aside0.mk hs
  clear hs
  go_enter Tryd.func8, Tryd.ntmps8
  go_wp2_with ((go_at_call 18); (with_reducible refine HS.out.mono ?_); (rintro e w1 ⟨rfl, rfl⟩))
  go_ret
  exact ⟨rfl, rfl⟩
end Go.Proofs.YtanjahakoadecaaDoor.Hand
