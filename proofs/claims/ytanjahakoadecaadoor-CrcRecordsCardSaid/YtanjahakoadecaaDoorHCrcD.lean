/- crc.number by hand, and crc.Take where the sum isn't right. Conditions: number: 7 bytes at most. -/
import Derived.Test.YtanjahakoadecaaDoorHCrcP
import Derived.Laws.BitsAllLaws
import Derived.Test.YtanjahakoadecaaDoorWWords
namespace Go.Proofs.YtanjahakoadecaaDoor.Hand
open Go.RowKit Go.Proofs.YtanjahakoadecaaDoorW.PrintWords Go.Proofs.YtanjahakoadecaaDoorW.PrintMore
set_option linter.unusedVariables false
set_option linter.unusedSimpArgs false

/-- The number of bytes, the highest one first. -/
def numF : List UInt8 → Nat → Nat
  | [], v => v
  | b :: l, v => numF l (v * 256 + b.toNat)
theorem or_byte (v b : Nat) (hb : b < 256) : (v * 256) ||| b = v * 256 + b := by
  have h := Nat.two_pow_add_eq_or_of_lt (i := 8) (b := b) (by omega) v
  rw [Nat.mul_comm 256 v] at h
  exact h.symm
set_option maxRecDepth 100000 in
theorem crc_number (s : ByteArray) (w : World) (hs : s.size ≤ 7) :
    Calls Tryd.prog 20 #[.string s] w fun e w' => e = .returned (.int .u64 ((numF s.data.toList 0 : Nat) : Int)) ∧ w' = w := by
  go_enter Tryd.func20, Tryd.ntmps20
  go_wp2
  go_loopw [3, 7] (fun v3 v7 wr => ∃ (v i : Nat), v3 = .int .u64 (v : Int) ∧ v7 = .int .i64 (i : Int) ∧ i ≤ s.size ∧ v < 256 ^ i ∧ wr = w ∧ Aside0 (numF (s.data.toList.drop i) v = numF s.data.toList 0)) (fun _ v7 _ => s.size - (intOf v7).toNat)
  case atStart => exact ⟨0, 0, rfl, rfl, Nat.zero_le _, by decide, rfl, ⟨rfl⟩⟩
  case round =>
    obtain ⟨v, i, rfl, rfl, hi, hv, rfl, HF⟩ := hrel
    by_cases hlt : i < s.size
    · have hb : s[i].toNat < 256 := s[i].toNat_lt
      have hv2 : v < 281474976710656 := Nat.lt_of_lt_of_le hv (Nat.le_trans (Nat.pow_le_pow_right (by decide) (show i ≤ 6 by omega)) (by decide))
      have HV := Aside0.mk hv
      clear hv
      go_wp2
      have e1 : bits .or .u64 ((v : Int) * 256) (s[i].toNat : Int) = ((v * 256 + s[i].toNat : Nat) : Int) := by
        have h := u64_or_nat (v * 256) s[i].toNat (by omega) (by omega)
        rw [or_byte v _ hb] at h
        rw [← h]; rfl
      rw [e1]
      refine ⟨⟨v * 256 + s[i].toNat, i + 1, rfl, rfl, hlt, ?_, trivial, ⟨?_⟩⟩, by simp only [intOf]; omega⟩
      · have := HV.out
        rw [Nat.pow_succ]
        omega
      · rw [← HF.out, List.drop_eq_getElem_cons (show i < s.data.toList.length from hlt)]
        rfl
    · go_wp2
      refine bodyPost_ret (results_tmp rfl _ _ _) rfl ?_
      have h := HF.out
      rw [List.drop_eq_nil_of_le (by show s.size ≤ i; omega)] at h
      exact ⟨by rw [← h]; rfl, rfl⟩
set_option maxRecDepth 100000 in
set_option maxHeartbeats 2000000 in
theorem crc_take_sum (s : ByteArray) (w : World) (h8 : 8 ≤ s.size) (hs : s.size ≤ 4611686018427387904)
    (hne : ¬ ((numF (s.extract (s.size - 4) s.size).data.toList 0 : Nat) : Int) = ((4294967295 ^^^ crcFold (s.extract 0 (s.size - 4)).data.toList 4294967295 : Nat) : Int)) :
    Calls Tryd.prog 10 #[.string s] w fun e w' => e = .returned (.tuple #[.agg #[.int .i64 0, .int .i64 0, .int .i64 0, .int .i64 0, .int .i64 0, .slice none 0 0, .slice none 0 0, .slice none 0 0, .bool false], .int .i64 7]) ∧ Below w.heap.size w w' := by
  have hz1 : (s.extract (s.size - 4) s.size).size = 4 := by rw [ByteArray.size_extract]; omega
  have hz2 : (s.extract 0 (s.size - 4)).size = s.size - 4 := by rw [ByteArray.size_extract]; omega
  have h1 := fun W => crc_number (s.extract (s.size - 4) s.size) W (by omega)
  have h2 := fun W => crc_sum (s.extract 0 (s.size - 4)) W (by omega)
  have hy : (4294967295 ^^^ crcFold (s.extract 0 (s.size - 4)).data.toList 4294967295) < 4294967296 := Nat.xor_lt_two_pow (n := 32) (by decide) (crcFold_lt _ (by decide))
  generalize (numF (s.extract (s.size - 4) s.size).data.toList 0) = x at *
  generalize (4294967295 ^^^ crcFold (s.extract 0 (s.size - 4)).data.toList 4294967295) = y at *
  obtain ⟨n, hn⟩ : ∃ n, n = s.size - 4 := ⟨_, rfl⟩
  rw [← hn] at h1 h2
  have hsn : (s.size : Int) - 4 = (n : Int) := by omega
  have hsw : IntKind.i64.wrap ((s.size : Int) - 4) = (n : Int) := by rw [IntKind.wrap_i64]; omega
  have hl : (4 : Int) ≤ (n : Int) := by omega
  have hlo : (0 : Int) ≤ (n : Int) := by omega
  have hhi : (n : Int) ≤ (s.size : Int) := by omega
  clear hn hz1 hz2
  have H1 := Aside0.mk h1
  have H2 := Aside0.mk h2
  clear h1 h2
  go_enter Tryd.func10, Tryd.ntmps10
  go_wp2
  go_region_held3 (fun _ => True) (exact trivial)
    (first
      | ((go_at_call 20); (with_reducible refine (H1.out _).mono ?_); (rintro e w1 ⟨rfl, rfl⟩))
      | ((go_at_call 18); (with_reducible refine (H2.out _).mono ?_); (rintro e w1 ⟨rfl, rfl⟩)))
  all_goals
    have hw : IntKind.u64.wrap (y : Int) = (y : Int) := by rw [IntKind.wrap_u64]; omega
    rw [hw]
    have hbn : ((x : Int) != (y : Int)) = true := bne_iff_ne.2 hne
    rw [hbn]
    clear hw hbn hne
    go_wp2
  all_goals
    refine bodyPost_ret (results_ct rfl _ _ w.heap.size 34 _ (0, 0) _ rfl (blk_new w _) Tryd.underlying34 rfl (by kernel_rfl)) rfl ?_
    exact ⟨rfl, ((Below.refl _ w).alloc (Nat.le_refl _) _).drew⟩
end Go.Proofs.YtanjahakoadecaaDoor.Hand
