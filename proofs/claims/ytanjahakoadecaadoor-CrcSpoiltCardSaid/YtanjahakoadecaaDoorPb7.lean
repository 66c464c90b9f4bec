/- CrcSpoilt by hand: a record whose bytes were turned in one bit isn't taken. -/
import Derived.Test.YtanjahakoadecaaDoorPCrcD
import Derived.Test.YtanjahakoadecaaDoorHCrcT
import Derived.Test.YtanjahakoadecaaDoorHCrcD
namespace Go.Proofs.YtanjahakoadecaaDoor.Pb
open Go.RowKit Go.Proofs.YtanjahakoadecaaDoor.Hand Go.Proofs.YtanjahakoadecaaDoor.Pure Go.Proofs.YtanjahakoadecaaDoorW.PrintWords Go.Proofs.YtanjahakoadecaaDoorW.PrintMore Go.Proofs.YtanjahakoadecaaDoor.Num
set_option linter.unusedVariables false
set_option linter.unusedSimpArgs false

/-- What is known behind a conversion of a string to its bytes. -/
theorem conv_facts (W : World) (S : ByteArray) : ∃ v W1 C, v = .slice (some ⟨W.heap.size, 0, none⟩) S.size C ∧ (convert 9 40 (.string S)).run Tryd.prog W = .ok v W1 ∧ Below W.heap.size W W1 ∧
    (∀ j, j < S.size → W1.cell? ⟨W.heap.size, j, none⟩ = some (.int .u8 ((S.data.toList.getD j 0).toNat : Int))) ∧ (∀ j, j < S.size → W1.frozen? ⟨W.heap.size, j, none⟩ = false) := by
  refine ⟨_, Lib.bytesWorld W 5 S, _, rfl, Lib.run_convert_string_bytes (P := Tryd.prog) W 9 40 5 S Tryd.underlying9 Tryd.underlying40 Tryd.underlying5, ?_, ?_, ?_⟩
  · exact ⟨rfl, rfl, rfl, by rw [Lib.bytesWorld_size]; omega, fun j hj => Lib.bytesWorld_at_old W 5 S j hj⟩
  · exact fun j hj => Lib.bytesWorld_cell W 5 S j hj
  · intro j hj
    simp [World.frozen?, Lib.bytesWorld_at_new, Lib.bytesCells]
    omega
set_option maxRecDepth 100000 in
set_option maxHeartbeats 2000000 in
theorem crc_spoilt (a0 a1 a2 a3 a4 : Int) (AP : Option Addr) (cp : Nat) (p : List Int) (AQ : Option Addr) (cq : Nat) (q : List Int) (AR : Option Addr) (cr : Nat) (r : List Int) (mi : Bool) (i kk : Int) (k : Nat) (S : ByteArray) (e0 : Int) (w : World)
    (hp : Rd w AP p.length p) (hcp : p.length ≤ cp) (hq : Rd w AQ q.length q) (hcq : q.length ≤ cq) (hr : Rd w AR r.length r) (hcr : r.length ≤ cr)
    (hby : crc_Bytes.f k a0 a1 a2 a3 a4 p q r mi = some (S, e0)) (hbad : e0 ≠ 0 ∨ i < 0 ∨ (S.size : Int) ≤ i ∨ kk < 0 ∨ 7 < kk ∨ 4000 < (S.size : Int)) :
    Calls Tryd.prog 4 #[.agg #[.int .i64 a0, .int .i64 a1, .int .i64 a2, .int .i64 a3, .int .i64 a4, .slice AP p.length cp, .slice AQ q.length cq, .slice AR r.length cr, .bool mi], .int .i64 i, .int .i64 kk] w fun e w' => e = .returned (.bool true) ∧ Below w.heap.size w w' := by
  have hB := fun W (h : Below w.heap.size w W) => crc_Bytes.calls k a0 a1 a2 a3 a4 (fun _ => True) AP cp p (fun _ => True) AQ cq q (fun _ => True) AR cr r mi S e0 W
    (Vw.of_Rd (ReadsInt.below hp h) hcp (fun _ _ _ => trivial)) (Vw.of_Rd (ReadsInt.below hq h) hcq (fun _ _ _ => trivial)) (Vw.of_Rd (ReadsInt.below hr h) hcr (fun _ _ _ => trivial)) hby
  have HSH := Aside0.mk crc_shown
  have HBY := Aside0.mk hB
  have HBAD := Aside0.mk hbad
  clear hB hp hq hr hby hbad
  go_enter Tryd.func4, Tryd.ntmps4
  go_wp2_with (first
    | ((go_at_call 8); (with_reducible refine (HSH.out _).mono ?_); (rintro e w1 ⟨rfl, rfl⟩))
    | ((go_at_call 11); (with_reducible refine (HBY.out _ (below_alloc (Below.refl _ _) _)).mono ?_); (rintro e w2 ⟨rfl, hb⟩); (have HB2 := Aside0.mk hb); (clear hb)))
  all_goals first
    | (refine bodyPost_ret (results_tmp rfl _ _ _) rfl ?_; exact ⟨rfl, below_step (below_alloc (Below.refl _ _) _) HB2.out⟩)
    | (exfalso; have hh := HBAD.out; simp at *; omega)
set_option maxRecDepth 100000 in
set_option maxHeartbeats 2000000 in
theorem crc_spoilt_good (a0 a1 a2 a3 a4 : Int) (AP : Option Addr) (cp : Nat) (p : List Int) (AQ : Option Addr) (cq : Nat) (q : List Int) (AR : Option Addr) (cr : Nat) (r : List Int) (mi : Bool) (n m : Nat) (k : Nat) (S : ByteArray) (t : List Int) (w : World)
    (hp : Rd w AP p.length p) (hcp : p.length ≤ cp) (hq : Rd w AQ q.length q) (hcq : q.length ≤ cq) (hr : Rd w AR r.length r) (hcr : r.length ≤ cr)
    (hby : crc_Bytes.f k a0 a1 a2 a3 a4 p q r mi = some (S, 0)) (hS : S = strOfNums (t ++ numT (sumOf t) 4)) (ht : 4 ≤ t.length) (hn : n < S.size) (hm : m ≤ 7) (hl : S.size ≤ 4000) :
    Calls Tryd.prog 4 #[.agg #[.int .i64 a0, .int .i64 a1, .int .i64 a2, .int .i64 a3, .int .i64 a4, .slice AP p.length cp, .slice AQ q.length cq, .slice AR r.length cr, .bool mi], .int .i64 (n : Int), .int .i64 (m : Int)] w fun e w' => e = .returned (.bool true) ∧ Below w.heap.size w w' := by
  have hB := fun W (h : Below w.heap.size w W) => crc_Bytes.calls k a0 a1 a2 a3 a4 (fun _ => True) AP cp p (fun _ => True) AQ cq q (fun _ => True) AR cr r mi S 0 W
    (Vw.of_Rd (ReadsInt.below hp h) hcp (fun _ _ _ => trivial)) (Vw.of_Rd (ReadsInt.below hq h) hcq (fun _ _ _ => trivial)) (Vw.of_Rd (ReadsInt.below hr h) hcr (fun _ _ _ => trivial)) hby
  obtain ⟨b, hb⟩ : ∃ b : Nat, b = (S.data.toList.getD n 0).toNat := ⟨_, rfl⟩
  obtain ⟨S', hS'⟩ : ∃ S', S' = turnedS S n (b ^^^ 2 ^ m) := ⟨_, rfl⟩
  have hsz : S'.size = S.size := by rw [hS', turnedS_size]
  have h8 : 8 ≤ S.size := by rw [hS, strOfNums_size, List.length_append, numT_length]; omega
  have htk := fun W => crc_take_sum S' W (by omega) (by omega) (spoilt_sum hS hn hm hb hS')
  have hb256 : b < 256 := by rw [hb]; exact UInt8.toNat_lt _
  have hp2 : 2 ^ m < 256 := Nat.lt_of_le_of_lt (Nat.pow_le_pow_right (by decide) hm) (by decide)
  have ey : bits BinOp.xor IntKind.u8 (b : Int) (2 ^ m % 256) = ((b ^^^ 2 ^ m : Nat) : Int) := by
    have e2 : ((2 ^ m : Nat) : Int) = (2 : Int) ^ m := Int.natCast_pow 2 m
    rw [← e2, show ((2 ^ m : Nat) : Int) % 256 = ((2 ^ m : Nat) : Int) from Int.emod_eq_of_lt (Int.natCast_nonneg _) (Int.ofNat_lt.2 hp2)]
    exact u8_xor_nat b _ hb256 hp2
  have hall : ∀ W2 : World, ∃ W1 C, (convert 9 40 (.string S)).run Tryd.prog W2 = .ok (.slice (some ⟨W2.heap.size, 0, none⟩) S.size C) W1 ∧ W1.cell? ⟨W2.heap.size, n, none⟩ = some (.int .u8 (b : Int)) ∧ W1.frozen? ⟨W2.heap.size, n, none⟩ = false ∧
      (convert 40 9 (.slice (some ⟨W2.heap.size, 0, none⟩) S.size C)).run Tryd.prog (W1.setCell ⟨W2.heap.size, n, none⟩ (.int .u8 (bits BinOp.xor IntKind.u8 (b : Int) (2 ^ m % 256)))) = .ok (.string S') (W1.setCell ⟨W2.heap.size, n, none⟩ (.int .u8 (bits BinOp.xor IntKind.u8 (b : Int) (2 ^ m % 256)))) ∧
      Below W2.heap.size W2 (W1.setCell ⟨W2.heap.size, n, none⟩ (.int .u8 (bits BinOp.xor IntKind.u8 (b : Int) (2 ^ m % 256)))) := fun W2 => by
    obtain ⟨v, W1, C, rfl, kc, hbw, hcells, hfz⟩ := conv_facts W2 S
    have c1 := hcells n hn
    rw [← hb] at c1
    refine ⟨W1, C, kc, c1, hfz n hn, ?_, ?_⟩
    · rw [ey, hS']
      exact string_of_reads (P := Tryd.prog) (src := 40) (dst := 9) (e := 5) (c := C) Tryd.underlying40 Tryd.underlying5 Tryd.underlying9 (turned_reads (c := b ^^^ 2 ^ m) hn hl hcells)
    · exact hbw.setCell (p := ⟨W2.heap.size, n, none⟩) (Nat.le_refl _) _
  have g1 : ¬ ((n : Int) < 0) := by omega
  have g2 : ¬ ((S.size : Int) ≤ (n : Int)) := by omega
  have g3 : ¬ ((m : Int) < 0) := by omega
  have g4 : ¬ (7 < (m : Int)) := by omega
  have g5 : ¬ (4000 < (S.size : Int)) := by omega
  have HSH := Aside0.mk crc_shown
  have HBY := Aside0.mk hB
  have HTK := Aside0.mk htk
  have HALL := Aside0.mk hall
  clear hB hp hq hr hby htk hall hb hS hS' ey hb256 hp2 hsz h8 ht
  go_enter Tryd.func4, Tryd.ntmps4
  go_wp2_with (first
    | ((go_at_call 8); (with_reducible refine (HSH.out _).mono ?_); (rintro e w1 ⟨rfl, rfl⟩))
    | ((go_at_call 11); (with_reducible refine (HBY.out _ (below_alloc (Below.refl _ _) _)).mono ?_); (rintro e w2 ⟨rfl, hb⟩); (have HB2 := Aside0.mk hb); (clear hb); (obtain ⟨W1, C, kc, c1, f1, hstr, hbx⟩ := HALL.out w2); (have HX := Aside0.mk hbx); (clear hbx))
    | ((go_at_call 10); (with_reducible refine (HTK.out _).mono ?_); (rintro e w3 ⟨rfl, hb3⟩); (have HB3 := Aside0.mk hb3); (clear hb3)))
  refine bodyPost_ret (results_tmp rfl _ _ _) rfl ?_
  first
    | exact ⟨rfl, below_step (below_step (below_step (below_alloc (Below.refl _ _) _) HB2.out) HX.out) HB3.out⟩
    | exact ⟨rfl, below_alloc (below_step (below_step (below_step (below_alloc (Below.refl _ _) _) HB2.out) HX.out) HB3.out) _⟩
    | exact ⟨rfl, below_step (below_alloc (below_step (below_step (below_alloc (Below.refl _ _) _) HB2.out) HX.out) _) HB3.out⟩
def tallysticklaw14_CrcSpoilt.f (a0 a1 a2 a3 a4 : Int) (p q r : List Int) (mi : Bool) (i kk : Int) : Option Bool := if inb p = true ∧ inb q = true ∧ inb r = true then some true else none
theorem tallysticklaw14_CrcSpoilt.calls (a0 a1 a2 a3 a4 : Int) (AP : Option Addr) (cp : Nat) (p : List Int) (AQ : Option Addr) (cq : Nat) (q : List Int) (AR : Option Addr) (cr : Nat) (r : List Int) (mi : Bool) (i kk : Int) (res : Bool) (w : World) (hp : Kd.C (Kd.int .u64) w AP p.length p) (hcp : p.length ≤ cp) (hq : Kd.C (Kd.int .u64) w AQ q.length q) (hcq : q.length ≤ cq) (hr : Kd.C (Kd.int .u64) w AR r.length r) (hcr : r.length ≤ cr) (hr_ : Aside0 (res = true)) (h : tallysticklaw14_CrcSpoilt.f a0 a1 a2 a3 a4 p q r mi i kk = some res) :
    Calls Tryd.prog 4 #[.agg #[.int .i64 a0, .int .i64 a1, .int .i64 a2, .int .i64 a3, .int .i64 a4, .slice AP p.length cp, .slice AQ q.length cq, .slice AR r.length cr, .bool mi], .int .i64 i, .int .i64 kk] w fun e w' => e = .returned (.bool res) ∧ Below w.heap.size w w' := by
  obtain rfl := hr_.out
  unfold tallysticklaw14_CrcSpoilt.f at h
  split at h
  · rename_i hi
    have hm : crc_may.f a0 a1 a2 a3 a4 p q r mi = some (mayV a0 a1 a2 a3 a4 p q r) := by
      unfold crc_may.f
      rw [if_pos hi]
    cases hv : mayV a0 a1 a2 a3 a4 p q r with
    | false =>
      rw [hv] at hm
      have hb : Pure.Ev (fun k => crc_Bytes.f k a0 a1 a2 a3 a4 p q r mi) ((⟨#[]⟩ : ByteArray), 1) := by
        unfold crc_Bytes.f
        exact Pure.Ev.bind (Pure.Ev.const hm) (Pure.Ev.no (by decide) (Pure.Ev.const rfl))
      obtain ⟨k, hk⟩ := hb.get
      exact crc_spoilt a0 a1 a2 a3 a4 AP cp p AQ cq q AR cr r mi i kk k _ 1 w (Rd.of_C hp) hcp (Rd.of_C hq) hcq (Rd.of_C hr) hcr hk (.inl (by decide))
    | true =>
      rw [hv] at hm
      unfold mayV at hv
      simp only [Bool.and_eq_true, decide_eq_true_eq] at hv
      obtain ⟨⟨⟨⟨⟨g1, g2⟩, _⟩, o1⟩, o2⟩, o3⟩ := hv
      have ol : ∀ {l : List Int}, ordV l = true → l.length ≤ 4096 := fun h => by
        unfold ordV at h
        rw [Bool.and_eq_true] at h
        exact of_decide_eq_true h.1
      obtain ⟨t, ht, he⟩ := Pure.bytes_ev hm (ol o1) (ol o2) (ol o3)
      obtain ⟨k, hk⟩ := he.get
      obtain ⟨S, hS⟩ : ∃ S, S = strOfNums (t ++ Pure.numT (Pure.sumOf t) 4) := ⟨_, rfl⟩
      rw [← hS] at hk
      by_cases hbad : i < 0 ∨ (S.size : Int) ≤ i ∨ kk < 0 ∨ 7 < kk ∨ 4000 < (S.size : Int)
      · exact crc_spoilt a0 a1 a2 a3 a4 AP cp p AQ cq q AR cr r mi i kk k S 0 w (Rd.of_C hp) hcp (Rd.of_C hq) hcq (Rd.of_C hr) hcr hk (.inr hbad)
      · obtain ⟨n, rfl⟩ := Int.eq_ofNat_of_zero_le (show 0 ≤ i by omega)
        obtain ⟨m, rfl⟩ := Int.eq_ofNat_of_zero_le (show 0 ≤ kk by omega)
        exact crc_spoilt_good a0 a1 a2 a3 a4 AP cp p AQ cq q AR cr r mi n m k S t w (Rd.of_C hp) hcp (Rd.of_C hq) hcq (Rd.of_C hr) hcr hk hS (by omega) (by omega) (by omega) (by omega)
  · cases h
end Go.Proofs.YtanjahakoadecaaDoor.Pb
