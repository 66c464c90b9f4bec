/- CrcTurned by hand: of bytes whose one bit was turned the sum is another one. Every string that memory may hold. -/
import Derived.Test.YtanjahakoadecaaHCrcA
import Derived.Test.YtanjahakoadecaaWWords
import Derived.Lib.ConvBytes
namespace Go.Proofs.Ytanjahakoadecaa.Pa
open Go.RowKit Go.Proofs.Ytanjahakoadecaa.Hand Go.Proofs.YtanjahakoadecaaW.PrintWords Go.Proofs.YtanjahakoadecaaW.PrintMore
set_option linter.unusedVariables false
set_option linter.unusedSimpArgs false

/-! ### plain -/
theorem crcBit_lt' {v : Nat} (h : v < 4294967296) : crcBit v < 4294967296 := by
  unfold crcBit
  split
  · exact Nat.xor_lt_two_pow (n := 32) (by omega) (by omega)
  · omega
/-- A bit's step tells its number again: the polynomial's highest bit shows what was cut off. -/
theorem crcBit_inj {u v : Nat} (hu : u < 4294967296) (hv : v < 4294967296) (h : crcBit u = crcBit v) : u = v := by
  have top : ∀ x, x < 4294967296 → (crcBit x).testBit 31 = decide (x % 2 = 1) := fun x hx => by
    have hs : (x / 2).testBit 31 = false := Nat.testBit_lt_two_pow (by omega)
    unfold crcBit
    split
    · rename_i ho
      rw [Nat.testBit_xor, hs, decide_eq_true ho]; decide
    · rename_i ho
      rw [hs, decide_eq_false ho]
  have hp : decide (u % 2 = 1) = decide (v % 2 = 1) := by rw [← top u hu, ← top v hv, h]
  unfold crcBit at h
  by_cases ho : u % 2 = 1
  · have ho2 : v % 2 = 1 := by rw [decide_eq_true ho] at hp; exact of_decide_eq_true hp.symm
    rw [if_pos ho, if_pos ho2] at h
    have h2 := congrArg (· ^^^ 3988292384) h
    simp only [Nat.xor_assoc, Nat.xor_self, Nat.xor_zero] at h2
    omega
  · have ho2 : ¬ v % 2 = 1 := by rw [decide_eq_false ho] at hp; exact of_decide_eq_false hp.symm
    rw [if_neg ho, if_neg ho2] at h
    omega
theorem crcBits_lt : ∀ (n : Nat) {v : Nat}, v < 4294967296 → crcBits n v < 4294967296
  | 0, _, h => h
  | n + 1, _, h => crcBits_lt n (crcBit_lt' h)
theorem crcBits_inj : ∀ (n : Nat) {u v : Nat}, u < 4294967296 → v < 4294967296 → crcBits n u = crcBits n v → u = v
  | 0, _, _, _, _, h => h
  | n + 1, _, _, hu, hv, h => crcBit_inj hu hv (crcBits_inj n (crcBit_lt' hu) (crcBit_lt' hv) h)
theorem xor_byte_lt {v : Nat} (b : UInt8) (h : v < 4294967296) : v ^^^ b.toNat < 4294967296 := Nat.xor_lt_two_pow (n := 32) (by omega) (by have := b.toNat_lt; omega)
theorem xor_left_inj {a b c : Nat} (h : a ^^^ c = b ^^^ c) : a = b := by
  have h2 := congrArg (· ^^^ c) h
  simpa only [Nat.xor_assoc, Nat.xor_self, Nat.xor_zero] using h2
theorem xor_right_inj {a b c : Nat} (h : c ^^^ a = c ^^^ b) : a = b := xor_left_inj (c := c) (by rw [Nat.xor_comm a, Nat.xor_comm b]; exact h)
theorem crcFold_lt : ∀ (l : List UInt8) {v : Nat}, v < 4294967296 → crcFold l v < 4294967296
  | [], _, h => h
  | b :: l, _, h => crcFold_lt l (crcBits_lt 8 (xor_byte_lt b h))
theorem crcFold_inj : ∀ (l : List UInt8) {u v : Nat}, u < 4294967296 → v < 4294967296 → crcFold l u = crcFold l v → u = v
  | [], _, _, _, _, h => h
  | b :: l, _, _, hu, hv, h => xor_left_inj (crcBits_inj 8 (xor_byte_lt b hu) (xor_byte_lt b hv) (crcFold_inj l (crcBits_lt 8 (xor_byte_lt b hu)) (crcBits_lt 8 (xor_byte_lt b hv)) h))
/-- Another byte in one place: another sum. -/
theorem crcFold_set : ∀ (l : List UInt8) (i : Nat) (c : UInt8) {v : Nat} (hi : i < l.length), v < 4294967296 → l[i] ≠ c → crcFold (l.set i c) v ≠ crcFold l v
  | b :: l, 0, c, v, _, hv, hne, h => hne (by
      have h2 := xor_right_inj (crcBits_inj 8 (xor_byte_lt c hv) (xor_byte_lt b hv) (crcFold_inj l (crcBits_lt 8 (xor_byte_lt c hv)) (crcBits_lt 8 (xor_byte_lt b hv)) h))
      exact UInt8.toNat_inj.1 h2.symm)
  | b :: l, i + 1, c, v, hi, hv, hne, h => crcFold_set l i c (by simpa using hi) (crcBits_lt 8 (xor_byte_lt b hv)) (by simpa using hne) h
/-- The string with a byte's bit turned. -/
def turnedS (s : ByteArray) (n c : Nat) : ByteArray := strOfNums ((s.data.toList.map fun b => ((b.toNat : Nat) : Int)).set n (c : Int))
theorem turnedS_data (s : ByteArray) (n c : Nat) : (turnedS s n c).data.toList = s.data.toList.set n (UInt8.ofNat c) := by
  unfold turnedS
  rw [strOfNums_data, List.map_set, List.map_map]
  have e : ((fun n : Int => UInt8.ofNat n.toNat) ∘ fun b : UInt8 => ((b.toNat : Nat) : Int)) = id := by
    funext b
    simp
  rw [e, List.map_id]
  rfl
theorem turnedS_size (s : ByteArray) (n c : Nat) : (turnedS s n c).size = s.size := by
  unfold turnedS
  rw [strOfNums_size]
  simp
theorem turned_ne {s : ByteArray} {n b m : Nat} (hn : n < s.size) (hm : m ≤ 7) (hb : b = (s.data.toList.getD n 0).toNat) :
    ¬ (((4294967295 ^^^ crcFold (turnedS s n (b ^^^ 2 ^ m)).data.toList 4294967295 : Nat) : Int) = ((4294967295 ^^^ crcFold s.data.toList 4294967295 : Nat) : Int)) := by
  intro h
  have h1 := xor_right_inj (Int.ofNat.inj h)
  rw [turnedS_data] at h1
  have hl : n < s.data.toList.length := hn
  have hbl : b = (s.data.toList[n]).toNat := by rw [hb, List.getD_eq_getElem?_getD, List.getElem?_eq_getElem hl]; rfl
  have hb256 : b < 256 := by rw [hbl]; exact UInt8.toNat_lt _
  have hp : 2 ^ m < 256 := Nat.lt_of_le_of_lt (Nat.pow_le_pow_right (by decide) hm) (by decide)
  have hx : b ^^^ 2 ^ m < 256 := Nat.xor_lt_two_pow (n := 8) hb256 hp
  refine crcFold_set s.data.toList n (UInt8.ofNat (b ^^^ 2 ^ m)) hl (by decide) (fun e => ?_) h1
  have e2 := congrArg UInt8.toNat e
  rw [← hbl, UInt8.toNat_ofNat', Nat.mod_eq_of_lt hx] at e2
  have e3 := xor_right_inj (c := b) (a := 0) (b := 2 ^ m) (by rw [Nat.xor_zero]; exact e2)
  have := Nat.pow_pos (n := m) (show 0 < 2 by decide)
  omega
theorem turned_reads {s : ByteArray} {W : World} {B n c : Nat} (hn : n < s.size) (hl : s.size ≤ 4000) (hcells : ∀ j, j < s.size → W.cell? ⟨B, j, none⟩ = some (.int .u8 ((s.data.toList.getD j 0).toNat : Int))) :
    ReadsInt (W.setCell ⟨B, n, none⟩ (.int .u8 (c : Int))) .u8 (some ⟨B, 0, none⟩) s.size ((s.data.toList.map fun b => ((b.toNat : Nat) : Int)).set n (c : Int)) := by
  refine ⟨by simp, by omega, fun _ => ⟨_, rfl, fun j hj => ?_⟩⟩
  rw [Addr.add_lit, Nat.zero_add]
  have hjl : j < s.data.toList.length := hj
  by_cases e : n = j
  · subst e
    rw [World.cell?_setCell_same' _ _ _ (by rw [hcells n hj]; rfl)]
    rw [List.getD_eq_getElem?_getD, List.getElem?_set_self (by rw [List.length_map]; exact hjl)]
    rfl
  · rw [World.cell?_setCell_other W ⟨B, n, none⟩ ⟨B, j, none⟩ (.int .u8 (c : Int)) (by intro h; cases h; exact e rfl), hcells j hj]
    rw [List.getD_eq_getElem?_getD, List.getD_eq_getElem?_getD, List.getElem?_set_ne e, List.getElem?_map, List.getElem?_eq_getElem hjl]
    rfl
/-! ### the walk -/
theorem crc_shown (w : World) : Calls Try.prog 5 #[] w fun e w' => e = .returned (.bool true) ∧ w' = w := by
  have hs := crc_sum (⟨#[49, 50, 51, 52, 53, 54, 55, 56, 57]⟩ : ByteArray) w (by decide)
  have e : (4294967295 ^^^ crcFold (⟨#[49, 50, 51, 52, 53, 54, 55, 56, 57]⟩ : ByteArray).data.toList 4294967295 : Nat) = 3421780262 := by decide +kernel
  rw [e] at hs
  have HS := Aside0.mk hs
  clear hs
  go_enter Try.func5, Try.ntmps5
  go_wp2_with ((go_at_call 6); (with_reducible refine HS.out.mono ?_); (rintro e w1 ⟨rfl, rfl⟩))
  go_ret
  exact ⟨rfl, rfl⟩
set_option maxRecDepth 100000 in
theorem crc_turned (s : ByteArray) (i k : Int) (w : World) (hs : s.size ≤ 140737488351232) (hi : -9223372036854775808 ≤ i ∧ i ≤ 9223372036854775807) (hk : -9223372036854775808 ≤ k ∧ k ≤ 9223372036854775807) :
    Calls Try.prog 3 #[.string s, .int .i64 i, .int .i64 k] w fun e w' => e = .returned (.bool true) ∧ Below w.heap.size w w' := by
  have HSH := Aside0.mk (crc_shown w)
  by_cases hbad : i < 0 ∨ (s.size : Int) ≤ i ∨ k < 0 ∨ 7 < k ∨ 4000 < (s.size : Int)
  · have HBAD := Aside0.mk hbad
    clear hbad
    go_enter Try.func3, Try.ntmps3
    go_wp2_with ((go_at_call 5); (with_reducible refine HSH.out.mono ?_); (rintro e w1 ⟨rfl, rfl⟩))
    all_goals first
      | (refine bodyPost_ret (results_tmp rfl _ _ _) rfl ?_; exact ⟨rfl, Below.refl _ _⟩)
      | (exfalso; have hh := HBAD.out; omega)
      | (exfalso; have hh := HBAD.out; simp at *; omega)
  · obtain ⟨n, rfl⟩ := Int.eq_ofNat_of_zero_le (show 0 ≤ i by omega)
    obtain ⟨m, rfl⟩ := Int.eq_ofNat_of_zero_le (show 0 ≤ k by omega)
    have hn : n < s.size := by omega
    have hm : m ≤ 7 := by omega
    have hl : s.size ≤ 4000 := by omega
    have kc := Lib.run_convert_string_bytes (P := Try.prog) w 9 23 5 s Try.underlying9 Try.underlying23 Try.underlying5
    obtain ⟨W1, hW1⟩ : ∃ W1, W1 = Lib.bytesWorld w 5 s := ⟨_, rfl⟩
    have hcells : ∀ j, j < s.size → W1.cell? ⟨w.heap.size, j, none⟩ = some (.int .u8 ((s.data.toList.getD j 0).toNat : Int)) := fun j hj => by rw [hW1]; exact Lib.bytesWorld_cell w 5 s j hj
    have f1 : W1.frozen? ⟨w.heap.size, n, none⟩ = false := by
      rw [hW1]
      simp [World.frozen?, Lib.bytesWorld_at_new, Lib.bytesCells]
      omega
    have hbW : Below w.heap.size w W1 := by
      rw [hW1]
      exact ⟨rfl, rfl, rfl, by rw [Lib.bytesWorld_size]; omega, fun j hj => Lib.bytesWorld_at_old w 5 s j hj⟩
    rw [← hW1] at kc
    clear hW1
    have c1 := hcells n hn
    generalize grownCap w s.size 0 5 = C at *
    obtain ⟨b, hb⟩ : ∃ b : Nat, b = (s.data.toList.getD n 0).toNat := ⟨_, rfl⟩
    rw [← hb] at c1
    have HB := Aside0.mk hb
    have HCE := Aside0.mk hcells
    have HBW := Aside0.mk hbW
    clear hb hcells hbW
    have g1 : ¬ ((n : Int) < 0) := by omega
    have g2 : ¬ ((s.size : Int) ≤ (n : Int)) := by omega
    have g3 : ¬ ((m : Int) < 0) := by omega
    have g4 : ¬ (7 < (m : Int)) := by omega
    have g5 : ¬ (4000 < (s.size : Int)) := by omega
    clear hbad hi hk
    have hb256 : b < 256 := by rw [HB.out]; exact UInt8.toNat_lt _
    have hp : 2 ^ m < 256 := Nat.lt_of_le_of_lt (Nat.pow_le_pow_right (by decide) hm) (by decide)
    have ey : bits BinOp.xor IntKind.u8 (b : Int) (2 ^ m % 256) = ((b ^^^ 2 ^ m : Nat) : Int) := by
      have e2 : ((2 ^ m : Nat) : Int) = (2 : Int) ^ m := Int.natCast_pow 2 m
      rw [← e2, show ((2 ^ m : Nat) : Int) % 256 = ((2 ^ m : Nat) : Int) from Int.emod_eq_of_lt (Int.natCast_nonneg _) (Int.ofNat_lt.2 hp)]
      exact u8_xor_nat b _ hb256 hp
    have hstr : (convert 23 9 (.slice (some ⟨w.heap.size, 0, none⟩) s.size C)).run Try.prog (W1.setCell ⟨w.heap.size, n, none⟩ (.int .u8 ((b ^^^ 2 ^ m : Nat) : Int))) = .ok (.string (turnedS s n (b ^^^ 2 ^ m))) (W1.setCell ⟨w.heap.size, n, none⟩ (.int .u8 ((b ^^^ 2 ^ m : Nat) : Int))) :=
      string_of_reads (P := Try.prog) (src := 23) (dst := 9) (e := 5) (c := C) Try.underlying23 Try.underlying5 Try.underlying9 (turned_reads (c := b ^^^ 2 ^ m) hn hl HCE.out)
    have hbx : Below w.heap.size w (W1.setCell ⟨w.heap.size, n, none⟩ (.int .u8 ((b ^^^ 2 ^ m : Nat) : Int))) := HBW.out.setCell (p := ⟨w.heap.size, n, none⟩) (Nat.le_refl _) _
    have hne := turned_ne hn hm HB.out
    have hs2 : (turnedS s n (b ^^^ 2 ^ m)).size ≤ 4611686018427387904 := by rw [turnedS_size]; omega
    have h1 := fun W => crc_sum (turnedS s n (b ^^^ 2 ^ m)) W hs2
    have h2 := fun W => crc_sum s W (by omega)
    rw [← ey] at hstr hbx
    clear hs2 ey
    generalize turnedS s n (b ^^^ 2 ^ m) = S2 at *
    generalize 4294967295 ^^^ crcFold S2.data.toList 4294967295 = a2 at *
    generalize 4294967295 ^^^ crcFold s.data.toList 4294967295 = a1 at *
    have H1 := Aside0.mk h1
    have H2 := Aside0.mk h2
    have HX := Aside0.mk hbx
    clear h1 h2 hbx hb256 hp
    go_enter Try.func3, Try.ntmps3
    go_wp2_with (first
      | ((go_at_call 5); (with_reducible refine HSH.out.mono ?_); (rintro e w1 ⟨rfl, rfl⟩))
      | ((go_at_call 6); (with_reducible refine (H1.out _).mono ?_); (rintro e w1 ⟨rfl, rfl⟩))
      | ((go_at_call 6); (with_reducible refine (H2.out _).mono ?_); (rintro e w1 ⟨rfl, rfl⟩)))
    have hb2 : ((a2 : Int) != (a1 : Int)) = true := bne_iff_ne.2 hne
    rw [hb2]
    refine bodyPost_ret (results_tmp rfl _ _ _) rfl ?_
    exact ⟨rfl, HX.out⟩
/-- What the law answers: true, of every string that memory may hold. -/
def tallysticklaw14_CrcTurned.f (l0 : ByteArray) (a1 a2 : Int) : Option Bool := if l0.size ≤ 140737488351232 ∧ (-9223372036854775808 ≤ a1 ∧ a1 ≤ 9223372036854775807) ∧ (-9223372036854775808 ≤ a2 ∧ a2 ≤ 9223372036854775807) then some true else none
theorem tallysticklaw14_CrcTurned.calls (l0 : ByteArray) (a1 a2 : Int) (r : Bool) (w : World) (hr_ : Aside0 (r = true)) (h : tallysticklaw14_CrcTurned.f l0 a1 a2 = some r) :
    Calls Try.prog 3 #[.string l0, .int .i64 a1, .int .i64 a2] w fun e w' => e = .returned (.bool r) ∧ Below w.heap.size w w' := by
  obtain rfl := hr_.out
  unfold tallysticklaw14_CrcTurned.f at h
  split at h
  · rename_i hh
    exact crc_turned l0 a1 a2 w hh.1 hh.2.1 hh.2.2
  · cases h
end Go.Proofs.Ytanjahakoadecaa.Pa
