/- CrcLong: a record's bytes are 38 and 8 for each word of its numbers; they begin alike. -/
import Derived.Test.YtanjahakoadecaaPCrcA
import Derived.Test.YtanjahakoadecaaPb3
import Derived.Laws.Strings
namespace Go.Proofs.Ytanjahakoadecaa.Pure
open Go.RowKit Go.Proofs.Ytanjahakoadecaa.Pb Go.Proofs.YtanjahakoadecaaW.PrintWords Go.Proofs.YtanjahakoadecaaW.PrintLast Go.Proofs.YtanjahakoadecaaW.PrintMore Go.Proofs.Ytanjahakoadecaa.Hand Go.Proofs.Ytanjahakoadecaa.Num
set_option linter.unusedVariables false
set_option linter.unusedSimpArgs false

theorem inB_wf {l : List Int} (h : ∀ x ∈ l, (Lit.int .u64 x).wf = true) : inb l = true := inb_iff.2 fun x hx => by
  have h1 := bounds_u64 (h x hx)
  rw [W_eq]
  omega
theorem shown14 : tallysticklaw14_shown.f = some true := by
  unfold tallysticklaw14_shown.f crc_Sum.f
  rw [if_pos (by decide)]
  decide +kernel
theorem ord_len {l : List Int} (h : ordV l = true) : l.length ≤ 4096 := by
  unfold ordV at h
  rw [Bool.and_eq_true] at h
  exact of_decide_eq_true h.1
theorem w_len (a b c : Nat) (ha : a ≤ 4096) (hb : b ≤ 4096) (hc : c ≤ 4096) : wrap64 (38 + wrap64 (8 * wrap64 (wrap64 ((a : Int) + (b : Int)) + (c : Int)))) = 38 + 8 * ((a : Int) + (b : Int) + (c : Int)) := by
  rw [IntWalk.wrap64_in ((a : Int) + (b : Int)) (by omega), IntWalk.wrap64_in ((a : Int) + (b : Int) + (c : Int)) (by omega), IntWalk.wrap64_in (8 * ((a : Int) + (b : Int) + (c : Int))) (by omega), IntWalk.wrap64_in _ (by omega)]
theorem w_self (a : Int) (h : 0 ≤ a ∧ a ≤ 255) : wrap64 a = a := IntWalk.wrap64_in _ (by omega)
theorem CrcLong (a0 a1 a2 a3 a4 : Int) (p q r : List Int) (mi : Bool) (_ : (Lit.int .i64 a0).wf = true) (_ : (Lit.int .i64 a1).wf = true) (_ : (Lit.int .i64 a2).wf = true) (_ : (Lit.int .i64 a3).wf = true) (_ : (Lit.int .i64 a4).wf = true)
    (_ : p.length ≤ maxLen) (hp : ∀ x ∈ p, (Lit.int .u64 x).wf = true) (_ : q.length ≤ maxLen) (hq : ∀ x ∈ q, (Lit.int .u64 x).wf = true) (_ : r.length ≤ maxLen) (hr : ∀ x ∈ r, (Lit.int .u64 x).wf = true) : ∃ k, tallysticklaw14_CrcLong.f k a0 a1 a2 a3 a4 p q r mi = some true := by
  have hm : crc_may.f a0 a1 a2 a3 a4 p q r mi = some (mayV a0 a1 a2 a3 a4 p q r) := by
    unfold crc_may.f
    rw [if_pos ⟨inB_wf hp, inB_wf hq, inB_wf hr⟩]
  refine Ev.get (F := fun k => tallysticklaw14_CrcLong.f k a0 a1 a2 a3 a4 p q r mi) ?_
  unfold tallysticklaw14_CrcLong.f
  refine Ev.bind (Ev.const shown14) ?_
  cases hv : mayV a0 a1 a2 a3 a4 p q r with
  | false =>
    rw [hv] at hm
    have hb : Ev (fun k => crc_Bytes.f k a0 a1 a2 a3 a4 p q r mi) ((⟨#[]⟩ : ByteArray), 1) := by
      unfold crc_Bytes.f
      exact Ev.bind (Ev.const hm) (Ev.no (by decide) (Ev.const rfl))
    exact Ev.bind hb (Ev.no (by decide) (Ev.yes (by first | rfl | trivial) (Ev.const (by decide +kernel))))
  | true =>
    rw [hv] at hm
    unfold mayV at hv
    simp only [Bool.and_eq_true, decide_eq_true_eq] at hv
    obtain ⟨⟨⟨⟨⟨g1, g2⟩, _⟩, o1⟩, o2⟩, o3⟩ := hv
    have l1 := ord_len o1
    have l2 := ord_len o2
    have l3 := ord_len o3
    obtain ⟨t, ht, he⟩ := bytes_ev hm l1 l2 l3
    have hs : (strOfNums ([84, 65, 76, 89, a0 % 256] ++ t)).size = 38 + 8 * (p.length + q.length + r.length) := by
      rw [strOfNums_size, List.length_append, ht]
      simp
      omega
    have hx : ((strOfNums ([84, 65, 76, 89, a0 % 256] ++ t)).extract 0 4).toList = ([84, 65, 76, 89] : List UInt8) := by
      rw [ByteArray.toList_eq, ByteArray.data_extract, Array.toList_extract, strOfNums_data]
      rfl
    have hb4 : wrap64 (bt (strOfNums ([84, 65, 76, 89, a0 % 256] ++ t)) 4) = a0 := by
      unfold bt
      rw [dif_pos (by rw [hs]; show 4 < _; omega)]
      have e : ((strOfNums ([84, 65, 76, 89, a0 % 256] ++ t))[(4 : Int).toNat]'(by rw [hs]; show 4 < _; omega)) = UInt8.ofNat (a0 % 256).toNat := rfl
      rw [e, UInt8.toNat_ofNat', Nat.mod_eq_of_lt (by omega), show (((a0 % 256).toNat : Nat) : Int) = a0 by omega]
      exact w_self a0 ⟨g1, g2⟩
    refine Ev.bind he (Ev.yes (by first | rfl | trivial) (Ev.yes (by first | rfl | trivial) (Ev.yes ?_ (Ev.yes (by decide) (Ev.yes ?_ (Ev.yes hx (Ev.yes ?_ (Ev.const ?_))))))))
    · show ((strOfNums ([84, 65, 76, 89, a0 % 256] ++ t)).size : Int) = _
      rw [hs, w_len _ _ _ l1 l2 l3]
      omega
    · show (4 : Int) ≤ ((strOfNums ([84, 65, 76, 89, a0 % 256] ++ t)).size : Int)
      rw [hs]; omega
    · show (4 : Int) < ((strOfNums ([84, 65, 76, 89, a0 % 256] ++ t)).size : Int)
      rw [hs]; omega
    · show some (wrap64 (bt (strOfNums ([84, 65, 76, 89, a0 % 256] ++ t)) 4) == a0) = some true
      rw [hb4, beq_self_eq_true]
end Go.Proofs.Ytanjahakoadecaa.Pure
