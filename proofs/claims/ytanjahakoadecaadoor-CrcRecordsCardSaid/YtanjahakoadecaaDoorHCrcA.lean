/- crc.Sum by hand: a sum of bytes. -/
import Derived.Test.YtanjahakoadecaaDoorProg
import Derived.Test.YtanjahakoadecaaDoorWMore
import Derived.WalkKit
import Derived.KernelRfl
import Derived.Handy
import Derived.Laws.BitsAllLaws
import Derived.IntWalk
namespace Go.Proofs.YtanjahakoadecaaDoor.Hand
open Go.RowKit Go.Proofs.YtanjahakoadecaaDoorW.PrintWords Go.Proofs.YtanjahakoadecaaDoorW.PrintMore
set_option linter.unusedVariables false
set_option linter.unusedSimpArgs false

/-- One bit of a sum. -/
def crcBit (v : Nat) : Nat := if v % 2 = 1 then (v / 2) ^^^ 3988292384 else v / 2
/-- Eight bits. -/
def crcBits : Nat → Nat → Nat
  | 0, v => v
  | n + 1, v => crcBits n (crcBit v)
/-- Bytes. -/
def crcFold : List UInt8 → Nat → Nat
  | [], v => v
  | b :: l, v => crcFold l (crcBits 8 (v ^^^ b.toNat))
def crc_Sum.f (s : ByteArray) : Option Int := if s.size ≤ 4611686018427387904 then some ((4294967295 ^^^ crcFold s.data.toList 4294967295 : Nat) : Int) else none
theorem crcBit_lt {v : Nat} (h : v < 4294967296) : crcBit v < 4294967296 := by
  unfold crcBit
  split
  · exact Nat.xor_lt_two_pow (n := 32) (by omega) (by omega)
  · omega
theorem crc_more {j u u' V : Nat} (hj : j < 8) (e : u' = if u % 2 = 1 then (u / 2) ^^^ 3988292384 else u / 2) (h : crcBits (8 - j) u = V) : crcBits (8 - (j + 1)) u' = V := by
  rw [show 8 - j = (8 - (j + 1)) + 1 by omega] at h
  rw [e]
  exact h
theorem crc_left {j : Nat} (hj : j < 8) : 8 - (intOf (.int .i64 ((j : Int) + 1))).toNat < 8 - (intOf (.int .i64 (j : Int))).toNat := by
  simp only [intOf]
  omega
theorem crc_out {s : ByteArray} {i v u : Nat} (hs : s.size ≤ 4611686018427387904) (hlt : i < s.size) (hb : s[i].toNat < 256) (hf : crcFold (s.data.toList.drop i) v = crcFold s.data.toList 4294967295) (hg : crcBits (8 - 8) u = crcBits 8 (v ^^^ s[i].toNat)) (hu : u < 4294967296) :
    (∃ v i_1, Value.int IntKind.u32 (u : Int) = Value.int IntKind.u32 ((v : Nat) : Int) ∧ Value.int IntKind.i64 ((i : Int) + 1) = Value.int IntKind.i64 ((i_1 : Nat) : Int) ∧ i_1 ≤ s.size ∧ v < 4294967296 ∧ True ∧ Aside0 (crcFold (s.data.toList.drop i_1) v = crcFold s.data.toList 4294967295)) ∧
      s.size - (intOf (.int .i64 ((i : Int) + 1))).toNat < s.size - (intOf (.int .i64 (i : Int))).toNat := by
  refine ⟨⟨u, i + 1, rfl, rfl, hlt, hu, trivial, ⟨?_⟩⟩, ?_⟩
  · rw [← hf, List.drop_eq_getElem_cons (show i < s.data.toList.length from hlt)]
    show _ = crcFold (s.data.toList.drop (i + 1)) (crcBits 8 (v ^^^ (s.data.toList[i]).toNat))
    have e : u = crcBits 8 (v ^^^ s[i].toNat) := hg
    rw [e]; rfl
  · simp only [intOf]
    omega
set_option maxRecDepth 100000 in
theorem crc_sum (s : ByteArray) (w : World) (hs : s.size ≤ 4611686018427387904) :
    Calls Tryd.prog 18 #[.string s] w fun e w' => e = .returned (.int .u32 ((4294967295 ^^^ crcFold s.data.toList 4294967295 : Nat) : Int)) ∧ w' = w := by
  go_enter Tryd.func18, Tryd.ntmps18
  go_wp2
  go_loopw [3, 7] (fun v3 v7 wr => ∃ (v i : Nat), v3 = .int .u32 (v : Int) ∧ v7 = .int .i64 (i : Int) ∧ i ≤ s.size ∧ v < 4294967296 ∧ wr = w ∧ Aside0 (crcFold (s.data.toList.drop i) v = crcFold s.data.toList 4294967295)) (fun _ v7 _ => (s.size - (intOf v7).toNat))
  case atStart => exact ⟨4294967295, 0, rfl, rfl, Nat.zero_le _, by decide, rfl, ⟨rfl⟩⟩
  case round =>
    obtain ⟨v, i, rfl, rfl, hi, hv, rfl, HF⟩ := hrel
    go_wp2
    · have hlt : i < s.size := by assumption
      have hb : s[i].toNat < 256 := s[i].toNat_lt
      have e1 : bits .xor .u32 (v : Int) ((s[i].toNat : Int) % 4294967296) = ((v ^^^ s[i].toNat : Nat) : Int) := by
        rw [show ((s[i].toNat : Int) % 4294967296) = ((s[i].toNat : Nat) : Int) by omega]
        exact u32_xor_nat v _ hv (by omega)
      have hx : v ^^^ s[i].toNat < 4294967296 := Nat.xor_lt_two_pow (n := 32) (by omega) (by omega)
      go_loopw [3, 16] (fun v3 v16 w2 => ∃ (u j : Nat), v3 = .int .u32 (u : Int) ∧ v16 = .int .i64 (j : Int) ∧ j ≤ 8 ∧ u < 4294967296 ∧ w2 = wr ∧ Aside0 (crcBits (8 - j) u = crcBits 8 (v ^^^ s[i].toNat))) (fun _ v16 _ => 8 - (intOf v16).toNat)
      case atStart => exact ⟨v ^^^ s[i].toNat, 0, by rw [e1], rfl, by omega, hx, rfl, ⟨rfl⟩⟩
      case round =>
        obtain ⟨u, j, rfl, rfl, hj, hu, rfl, HG⟩ := hrel
        have e2 : bits .xor .u32 ((u : Int) / 2) 3988292384 = ((u / 2 ^^^ 3988292384 : Nat) : Int) := by
          rw [show ((u : Int) / 2) = ((u / 2 : Nat) : Int) by omega]
          exact u32_xor_nat (u / 2) 3988292384 (by omega) (by omega)
        have e3 : bits .and .u32 (u : Int) 1 = ((u % 2 : Nat) : Int) := by
          rw [show (1 : Int) = ((1 : Nat) : Int) from rfl, u32_and_nat u 1 hu (by omega), Nat.and_one_is_mod]
        clear e1
        by_cases hodd : u % 2 = 1
        · rw [hodd] at e3
          have HO := Aside0.mk hodd
          clear hodd
          go_wp2
          · have hj8 : j < 8 := by omega
            exact ⟨⟨u / 2 ^^^ 3988292384, j + 1, rfl, rfl, hj8, Nat.xor_lt_two_pow (n := 32) (by omega) (by omega), trivial, ⟨crc_more hj8 (by rw [if_pos HO.out]) HG.out⟩⟩, crc_left hj8⟩
          · have hj8 : j = 8 := by omega
            have hg := HG.out
            rw [hj8] at hg
            exact crc_out hs hlt hb HF.out hg hu
        · have HO := Aside0.mk hodd
          rw [show u % 2 = 0 by omega] at e3
          clear hodd
          go_wp2
          · have hj8 : j < 8 := by omega
            exact ⟨⟨u / 2, j + 1, by rw [show ((u / 2 : Nat) : Int) = (u : Int) / 2 by omega], rfl, hj8, by omega, trivial, ⟨crc_more hj8 (by rw [if_neg HO.out]) HG.out⟩⟩, crc_left hj8⟩
          · have hj8 : j = 8 := by omega
            have hg := HG.out
            rw [hj8] at hg
            exact crc_out hs hlt hb HF.out hg hu
    · have hi2 : i = s.size := by omega
      have e4 : bits .xor .u32 IntKind.u32.max (v : Int) = ((4294967295 ^^^ v : Nat) : Int) := u32_xor_nat 4294967295 v (by decide) hv
      have e5 : v = crcFold s.data.toList 4294967295 := by
        have h := HF.out
        rw [List.drop_eq_nil_of_le (by rw [hi2]; exact Nat.le_refl _)] at h
        exact h
      rw [e4, e5]
      refine bodyPost_ret (results_tmp rfl _ _ _) rfl ?_
      exact ⟨rfl, rfl⟩
theorem crc_Sum.calls (l0 : ByteArray) (r : Int) (w : World) (h : crc_Sum.f l0 = some r) :
    Calls Tryd.prog 18 #[.string l0] w fun e w' => e = .returned (.int .u32 r) ∧ Below w.heap.size w w' := by
  unfold crc_Sum.f at h
  split at h
  · rename_i hs
    cases h
    refine (crc_sum l0 w hs).mono ?_
    rintro e w' ⟨rfl, rfl⟩
    exact ⟨rfl, Below.refl _ _⟩
  · cases h
end Go.Proofs.YtanjahakoadecaaDoor.Hand
