/- Texts joined into one: each with its own sentence of what is proved, and under which conditions. -/
import Derived.Test.YtanjahakoadecaaDoorPc5
import Derived.Test.YtanjahakoadecaaDoorPc6
import Derived.Test.YtanjahakoadecaaDoorPc8
import Derived.Test.YtanjahakoadecaaDoorPCrcG
import Derived.Laws.BitsAllLaws
import Derived.Test.YtanjahakoadecaaDoorPc7
/- Law 14: what the document's small functions tell with enough rounds: the number of bytes, the sum, what is ordered, what may be, a number's bytes, a row's bytes, a row taken. -/
namespace Go.Proofs.YtanjahakoadecaaDoor.Pure
open Go.RowKit Go.Proofs.YtanjahakoadecaaDoor.Pc Go.Proofs.YtanjahakoadecaaDoorW.PrintWords Go.Proofs.YtanjahakoadecaaDoorW.PrintLast Go.Proofs.YtanjahakoadecaaDoorW.PrintMore Go.Proofs.YtanjahakoadecaaDoor.Hand Go.Proofs.YtanjahakoadecaaDoor.Num
set_option linter.unusedVariables false
set_option linter.unusedSimpArgs false

theorem bt_at' (S : ByteArray) (i : Nat) (h : i < (bl S).length) : bt S (i : Int) = (((bl S)[i].toNat : Nat) : Int) := by
  unfold bt
  rw [dif_pos (show (i : Int).toNat < S.size from h)]
  rfl
theorem number_loop (S : ByteArray) (h8 : S.size ≤ 8) : ∀ (d i v : Nat), i + d = S.size → v < 256 ^ i → Ev (fun k => tallystickref14_number.l0 k S (v : Int) (i : Int)) ((numF ((bl S).drop i) v : Nat) : Int)
  | 0, i, v, hi, _ => by
    refine Ev.succ ?_
    simp only [tallystickref14_number.l0]
    refine Ev.no (by omega) (Ev.const ?_)
    rw [List.drop_of_length_le (by rw [bl_len]; omega)]
    rfl
  | d + 1, i, v, hi, hv => by
    have hil : i < (bl S).length := by rw [bl_len]; omega
    have hb : (bl S)[i].toNat < 256 := (bl S)[i].toNat_lt
    have hp : 256 ^ i ≤ 256 ^ 7 := Nat.pow_le_pow_right (by omega) (by omega)
    have hp7 : 256 ^ 7 = 72057594037927936 := by decide
    refine Ev.succ ?_
    simp only [tallystickref14_number.l0]
    refine Ev.yes (by omega) (Ev.yes (by omega) ?_)
    rw [bt_at' S i hil, w_next i (by omega), wrap_id (256 * (v : Int)) (by omega) (by omega), wrap_id (((bl S)[i].toNat : Nat) : Int) (by omega) (by omega), wrap_id _ (by omega) (by omega)]
    have e := number_loop S h8 d (i + 1) (v * 256 + (bl S)[i].toNat) (by omega) (by rw [Nat.pow_succ]; omega)
    rw [List.drop_eq_getElem_cons hil]
    rw [show (256 * (v : Int) + (((bl S)[i].toNat : Nat) : Int)) = ((v * 256 + (bl S)[i].toNat : Nat) : Int) by omega]
    exact e
theorem number_ev (S : ByteArray) (h8 : S.size ≤ 8) : Ev (fun k => tallystickref14_number.f k S) ((numF (bl S) 0 : Nat) : Int) := by
  have e := number_loop S h8 S.size 0 0 (by omega) (by simp)
  exact e
/-! ### the sum -/
/-- One bit, as the document has it: v's lowest bit beside the byte's. -/
theorem bit_step (v b : Nat) : crcBit (v ^^^ b) = (if v % 2 = b % 2 then v / 2 else (v / 2) ^^^ 3988292384) ^^^ (b / 2) := by
  unfold crcBit
  have hm : ((v ^^^ b) % 2 = 1) ↔ ¬ ((v % 2 = 1) ↔ (b % 2 = 1)) := Nat.xor_mod_two_eq_one
  have hd : (v ^^^ b) / 2 = v / 2 ^^^ b / 2 := by
    have := Nat.shiftRight_xor_distrib (a := v) (b := b) (i := 1)
    simpa [Nat.shiftRight_succ] using this
  rw [hd]
  by_cases h : v % 2 = b % 2
  · rw [if_neg (by rw [hm]; omega), if_pos h]
  · rw [if_pos (by rw [hm]; omega), if_neg h, Nat.xor_assoc, Nat.xor_assoc, Nat.xor_comm (b / 2)]
theorem bits_out (n v b : Nat) : crcBits (n + 1) (v ^^^ b) = crcBits n ((if v % 2 = b % 2 then v / 2 else (v / 2) ^^^ 3988292384) ^^^ (b / 2)) := by
  show crcBits n (crcBit (v ^^^ b)) = _
  rw [bit_step]
theorem half_lt {v b : Nat} (h : v < 4294967296) : (if v % 2 = b % 2 then v / 2 else (v / 2) ^^^ 3988292384) < 4294967296 := by
  split
  · omega
  · exact Nat.xor_lt_two_pow (n := 32) (by omega) (by omega)
theorem shr_u8 (b j : Nat) (hj : j ≤ 7) (hb : b < 256) : (shr .u8 (b : Int) (IntKind.u64.wrap (j : Int))) = ((b / 2 ^ j : Nat) : Int) := by
  rw [wrap_id _ (by omega) (by omega)]
  unfold shr
  rw [show min ((j : Int)).toNat IntKind.u8.bits = j by show min ((j : Int)).toNat 8 = j; omega]
  have e : ((2 ^ j : Nat) : Int) = (2 : Int) ^ j := Int.natCast_pow 2 j
  rw [← e]
  rfl
theorem sum_bits (S : ByteArray) (i : Nat) (hil : i < (bl S).length) (res : Int) (h : Ev (fun k => tallystickref14_Sum.l0 k S ((crcBits 8 0 : Nat) : Int) 0) 0 → True) : ∀ (d j v : Nat), j + d = 8 → v < 4294967296 →
    (∀ v' : Nat, v' = crcBits d (v ^^^ ((bl S)[i].toNat / 2 ^ j)) → Ev (fun k => tallystickref14_Sum.l0 k S (v' : Int) (wrap64 ((i : Int) + 1))) res) → Ev (fun k => tallystickref14_Sum.l1 k S (v : Int) (i : Int) (j : Int)) res
  | 0, j, v, hj, _, hn => by
    refine Ev.succ ?_
    simp only [tallystickref14_Sum.l1]
    refine Ev.no (by omega) (hn v ?_)
    have hb : (bl S)[i].toNat < 256 := (bl S)[i].toNat_lt
    obtain rfl : j = 8 := by omega
    rw [show (bl S)[i].toNat / 2 ^ 8 = 0 from Nat.div_eq_of_lt hb, Nat.xor_zero]
    rfl
  | d + 1, j, v, hj, hv, hn => by
    have hb : (bl S)[i].toNat < 256 := (bl S)[i].toNat_lt
    have hbj : (bl S)[i].toNat / 2 ^ j < 256 := Nat.lt_of_le_of_lt (Nat.div_le_self _ _) hb
    have il := hil
    rw [bl_len] at il
    refine Ev.succ ?_
    simp only [tallystickref14_Sum.l1]
    have hw : wrap64 ((j : Int) + 1) = ((j + 1 : Nat) : Int) := w_next j (by omega)
    have ht : (Int.tdiv (v : Int) 2) % 4294967296 = ((v / 2 : Nat) : Int) := by
      rw [Int.tdiv_eq_ediv_of_nonneg (by omega)]
      omega
    have e1 : bits .and .u32 (v : Int) 1 = ((v % 2 : Nat) : Int) := by
      rw [show (1 : Int) = ((1 : Nat) : Int) from rfl, u32_and_nat v 1 hv (by omega), Nat.and_one_is_mod]
    have e2 : bits .and .u32 ((shr .u8 (bt S (i : Int)) (IntKind.u64.wrap (j : Int))) % 4294967296) 1 = (((bl S)[i].toNat / 2 ^ j % 2 : Nat) : Int) := by
      rw [bt_at' S i hil, shr_u8 _ j (by omega) hb]
      generalize (bl S)[i].toNat / 2 ^ j = x at hbj ⊢
      rw [show ((x : Int) % 4294967296) = (x : Int) by omega]
      rw [show (1 : Int) = ((1 : Nat) : Int) from rfl, u32_and_nat _ 1 (by omega) (by omega), Nat.and_one_is_mod]
    have e3 : bits .xor .u32 ((v / 2 : Nat) : Int) 3988292384 = ((v / 2 ^^^ 3988292384 : Nat) : Int) := u32_xor_nat (v / 2) 3988292384 (by omega) (by omega)
    rw [e1, e2, ht, e3, hw]
    have hdd : (bl S)[i].toNat / 2 ^ j / 2 = (bl S)[i].toNat / 2 ^ (j + 1) := by rw [Nat.div_div_eq_div_mul, Nat.pow_succ]
    have key := fun v' (he : v' = crcBits d ((if v % 2 = (bl S)[i].toNat / 2 ^ j % 2 then v / 2 else v / 2 ^^^ 3988292384) ^^^ ((bl S)[i].toNat / 2 ^ (j + 1)))) => hn v' (by rw [he, bits_out, hdd])
    have hl := half_lt (b := (bl S)[i].toNat / 2 ^ j) hv
    refine Ev.yes (by omega) (Ev.yes (by omega) (Ev.yes (by omega) (Ev.yes (by rw [wrap_id _ (by omega) (by omega)]; omega) ?_)))
    by_cases hc : v % 2 = (bl S)[i].toNat / 2 ^ j % 2
    · rw [if_pos hc] at key hl
      exact Ev.yes (by rw [hc]) (sum_bits S i hil res h d (j + 1) (v / 2) (by omega) hl key)
    · rw [if_neg hc] at key hl
      exact Ev.no (fun he => hc (Int.ofNat.inj he)) (sum_bits S i hil res h d (j + 1) (v / 2 ^^^ 3988292384) (by omega) hl key)
theorem crcBits_lt : ∀ (n : Nat) {v : Nat}, v < 4294967296 → crcBits n v < 4294967296
  | 0, _, h => h
  | n + 1, _, h => crcBits_lt n (crcBit_lt h)
theorem not_u32 (x : Nat) (h : x < 4294967296) : 4294967295 - x = 4294967295 ^^^ x := by
  have e := congrArg BitVec.toNat (BitVec.not_def (x := BitVec.ofNat 32 x))
  rw [BitVec.toNat_not, BitVec.toNat_xor, BitVec.toNat_allOnes, BitVec.toNat_ofNat, Nat.mod_eq_of_lt h] at e
  exact e
theorem sum_loop (S : ByteArray) (hs : S.size ≤ 4611686018427387904) : ∀ (d i v : Nat), i + d = S.size → v < 4294967296 → Ev (fun k => tallystickref14_Sum.l0 k S (v : Int) (i : Int)) (((4294967295 ^^^ crcFold ((bl S).drop i) v : Nat)) : Int)
  | 0, i, v, hi, hv => by
    refine Ev.succ ?_
    simp only [tallystickref14_Sum.l0]
    refine Ev.no (by omega) (Ev.const ?_)
    rw [List.drop_of_length_le (by rw [bl_len]; omega)]
    show some ((4294967295 - (v : Int)) % 4294967296) = some ((4294967295 ^^^ v : Nat) : Int)
    rw [← not_u32 v hv]
    congr 1
    omega
  | d + 1, i, v, hi, hv => by
    have hil : i < (bl S).length := by rw [bl_len]; omega
    have hb : (bl S)[i].toNat < 256 := (bl S)[i].toNat_lt
    refine Ev.succ ?_
    simp only [tallystickref14_Sum.l0]
    refine Ev.yes (by omega) ?_
    refine sum_bits S i hil _ (fun _ => trivial) 8 0 v (by omega) hv ?_
    intro v' hv'
    rw [Nat.pow_zero, Nat.div_one] at hv'
    rw [w_next i (by omega)]
    have e := sum_loop S hs d (i + 1) v' (by omega) (by rw [hv']; exact crcBits_lt 8 (Nat.xor_lt_two_pow (n := 32) hv (by omega)))
    rw [List.drop_eq_getElem_cons hil]
    show Ev _ (((4294967295 ^^^ crcFold ((bl S).drop (i + 1)) (crcBits 8 (v ^^^ (bl S)[i].toNat)) : Nat)) : Int)
    rw [← hv']
    exact e
theorem refSum_ev (S : ByteArray) (hs : S.size ≤ 4611686018427387904) : Ev (fun k => tallystickref14_Sum.f k S) ((crcL (bl S) : Nat) : Int) := by
  have e := sum_loop S hs S.size 0 4294967295 (by omega) (by decide)
  exact e
/-! ### what is ordered, what may be -/
theorem ord_iff {l : List Int} (hi : InB W l) (hn : l ≠ []) : (dig W (val W l)).length = l.length ↔ l.getLastD 0 ≠ 0 := by
  have hW : 1 < W := by rw [W_eq]; omega
  constructor
  · intro h
    have h2 := (norm_facts hi).2
    rw [h, List.take_of_length_le (Nat.le_refl _)] at h2
    have ho := dig_ord hW (val W l)
    rw [← h2] at ho
    rcases ho with h0 | h0
    · exact (hn h0).elim
    · exact h0
  · intro h
    rw [dig_val hW hi (Or.inr h)]
theorem refOrd {l : List Int} (hi : InB W l) (hm : l.length ≤ maxLen) : tallystickref14_ordered.f l = some (ordV l) := by
  have hmx : maxLen = 9223372036854775807 := rfl
  unfold tallystickref14_ordered.f ordV
  by_cases h1 : l.length ≤ 4096
  · rw [if_pos (by omega), decide_eq_true h1, Bool.true_and]
    by_cases h0 : l = []
    · subst h0
      rw [if_pos (show (([] : List Int).length : Int) = 0 from rfl)]
      congr 1
      symm
      rw [decide_eq_true_eq]
      have := (norm_facts (l := []) hi).1
      exact Nat.le_antisymm this (Nat.zero_le _)
    · have hp : 0 < l.length := List.length_pos_iff.2 h0
      have hw : wrap64 ((l.length : Int) - 1) = ((l.length - 1 : Nat) : Int) := by rw [w_less l.length (by omega)]; omega
      rw [if_neg (by omega), hw, if_pos (by omega), if_pos (by omega), rd_at l (l.length - 1) (by omega)]
      congr 1
      have e : l.getLastD 0 = l[l.length - 1] := by
        rw [List.getLastD_eq_getLast?, List.getLast?_eq_getElem?, List.getElem?_eq_getElem (by omega)]
        rfl
      have := ord_iff hi h0
      rw [e] at this
      by_cases hz : l[l.length - 1] = 0
      · rw [hz]
        symm
        rw [show ((0 : Int) != 0) = false from rfl, decide_eq_false_iff_not, this]
        simpa using hz
      · rw [show (l[l.length - 1] != 0) = true by simpa using hz]
        symm
        rw [decide_eq_true_eq, this]
        exact hz
  · rw [if_neg (by omega), decide_eq_false h1, Bool.false_and]
theorem refSmall (a : Int) : tallystickref14_small.f a = some (!oddV a) := by
  unfold tallystickref14_small.f oddV
  by_cases h : a ≥ 0
  · rw [if_pos h]
    congr 1
    rw [decide_eq_false (by omega : ¬ a < 0), Bool.false_or, ← decide_not]
    rw [decide_eq_decide]
    omega
  · rw [if_neg h, decide_eq_true (by omega : a < 0)]
    rfl
theorem refMay (a0 a1 a2 a3 a4 : Int) {p q r : List Int} (mi : Bool) (ip : InB W p) (iq : InB W q) (ir : InB W r) (hp : p.length ≤ maxLen) (hq : q.length ≤ maxLen) (hr : r.length ≤ maxLen) : tallystickref14_May.f a0 a1 a2 a3 a4 p q r mi = some (mayV a0 a1 a2 a3 a4 p q r) := by
  unfold tallystickref14_May.f mayV
  rw [refSmall, refSmall, refSmall, refSmall, refOrd ip hp, refOrd iq hq, refOrd ir hr]
  simp only [List.any_cons, List.any_nil, Bool.or_false]
  generalize oddV a1 = o1
  generalize oddV a2 = o2
  generalize oddV a3 = o3
  generalize oddV a4 = o4
  generalize ordV p = b1
  generalize ordV q = b2
  generalize ordV r = b3
  by_cases h0 : 0 ≤ a0
  · have h0' : a0 ≥ 0 := h0
    cases o1 <;> cases o2 <;> cases o3 <;> cases o4 <;> cases b1 <;> cases b2 <;> cases b3 <;> simp [h0, h0']
  · have h0' : ¬ a0 ≥ 0 := h0
    cases o1 <;> cases o2 <;> cases o3 <;> cases o4 <;> cases b1 <;> cases b2 <;> cases b3 <;> simp [h0, h0']
end Go.Proofs.YtanjahakoadecaaDoor.Pure

/- Law 14: what the document's bytes, rowBytes, Bytes and takeRow tell with enough rounds. -/
namespace Go.Proofs.YtanjahakoadecaaDoor.Pure
open Go.RowKit Go.Proofs.YtanjahakoadecaaDoor.Pc Go.Proofs.YtanjahakoadecaaDoorW.PrintWords Go.Proofs.YtanjahakoadecaaDoorW.PrintLast Go.Proofs.YtanjahakoadecaaDoorW.PrintMore Go.Proofs.YtanjahakoadecaaDoor.Hand Go.Proofs.YtanjahakoadecaaDoor.Num
set_option linter.unusedVariables false
set_option linter.unusedSimpArgs false

theorem inB_nil' : InB W [] := fun x hx => absurd hx (by simp)
theorem mk_app (a b : List UInt8) : (⟨a.toArray⟩ : ByteArray) ++ ⟨b.toArray⟩ = ⟨(a ++ b).toArray⟩ := by
  apply bl_inj
  show bl ((⟨a.toArray⟩ : ByteArray) ++ ⟨b.toArray⟩) = a ++ b
  unfold bl
  rw [ByteArray.data_append, Array.toList_append]
theorem mk_size (a : List UInt8) : (⟨a.toArray⟩ : ByteArray).size = a.length := rfl
theorem bytes_loop (v m : Nat) (hv : v < 18446744073709551616) (hm : m ≤ 8) : ∀ (d i : Nat), i + d = m → Ev (fun k => tallystickref14_bytes.l0 k ((v / 256 ^ i : Nat) : Int) (m : Int) ⟨(nb i v).toArray⟩ (i : Int)) ⟨(nb m v).toArray⟩
  | 0, i, hi => by
    obtain rfl : i = m := by omega
    refine Ev.succ ?_
    simp only [tallystickref14_bytes.l0]
    exact Ev.no (by omega) (Ev.const rfl)
  | d + 1, i, hi => by
    have hlt : v / 256 ^ i < 18446744073709551616 := Nat.lt_of_le_of_lt (Nat.div_le_self _ _) hv
    have hq : v / 256 ^ i / 256 = v / 256 ^ (i + 1) := by rw [Nat.div_div_eq_div_mul, Nat.pow_succ]
    have e := bytes_loop v m hv hm d (i + 1) (by omega)
    refine Ev.succ ?_
    simp only [tallystickref14_bytes.l0]
    refine Ev.yes (by omega) (Ev.bind (Ev.const rfl) ?_)
    have hstr : strOfNums [Int.tmod ((v / 256 ^ i : Nat) : Int) 256 % 256] = ⟨([UInt8.ofNat (v / 256 ^ i % 256)]).toArray⟩ := by
      apply bl_inj
      show by8 [Int.tmod ((v / 256 ^ i : Nat) : Int) 256 % 256] = [UInt8.ofNat (v / 256 ^ i % 256)]
      have : (Int.tmod ((v / 256 ^ i : Nat) : Int) 256 % 256).toNat = v / 256 ^ i % 256 := by
        rw [Int.tmod_eq_emod_of_nonneg (Int.natCast_nonneg _)]
        generalize v / 256 ^ i = x
        omega
      simp only [by8, List.map_cons, List.map_nil]
      rw [this]
    have htd : IntKind.u64.wrap (Int.tdiv ((v / 256 ^ i : Nat) : Int) 256) = ((v / 256 ^ (i + 1) : Nat) : Int) := by
      rw [Int.tdiv_eq_ediv_of_nonneg (Int.natCast_nonneg _), ← hq]
      generalize v / 256 ^ i = x at hlt ⊢
      rw [wrap_id _ (by omega) (by omega)]
      omega
    rw [hstr, htd, mk_app, w_next i (by omega)]
    refine Ev.yes ?_ e
    rw [mk_size, mk_size, nb_length]
    simp
    omega
theorem refBytes_ev (v m : Nat) (hv : v < 18446744073709551616) (hm : m ≤ 8) : Ev (fun k => tallystickref14_bytes.f k (v : Int) (m : Int)) ⟨(nb m v).toArray⟩ := by
  have e := bytes_loop v m hv hm m 0 (by omega)
  rw [Nat.pow_zero, Nat.div_one] at e
  exact e
theorem rowBytes_loop (l : List Int) (hl : l.length ≤ 4096) (hi : InB W l) : ∀ (d i : Nat) (x : List UInt8), i + d = l.length → x.length + 8 * d ≤ 1000000 → Ev (fun k => tallystickref14_rowBytes.l0 k l ⟨x.toArray⟩ (i : Int)) ⟨(x ++ wordsL (l.drop i)).toArray⟩
  | 0, i, x, hd, _ => by
    refine Ev.succ ?_
    simp only [tallystickref14_rowBytes.l0]
    rw [List.drop_of_length_le (by omega), show wordsL [] = [] from rfl, List.append_nil]
    exact Ev.no (by omega) (Ev.const rfl)
  | d + 1, i, x, hd, hx => by
    have hil : i < l.length := by omega
    have hxi := hi l[i] (List.getElem_mem hil)
    rw [W_eq] at hxi
    have e1 := refBytes_ev l[i].toNat 8 (by omega) (by omega)
    rw [show ((l[i].toNat : Nat) : Int) = l[i] by omega] at e1
    have e2 := rowBytes_loop l hl hi d (i + 1) (x ++ nb 8 l[i].toNat) (by omega) (by rw [List.length_append, nb_length]; omega)
    refine Ev.succ ?_
    simp only [tallystickref14_rowBytes.l0]
    rw [rd_at l i hil]
    refine Ev.yes (by omega) (Ev.yes (by omega) (Ev.bind e1 (Ev.yes ?_ ?_)))
    · rw [mk_size, mk_size, nb_length]; omega
    · rw [mk_app, w_next i (by omega), List.drop_eq_getElem_cons hil]
      rw [List.append_assoc] at e2
      exact e2
theorem refRowBytes_ev (l : List Int) (hl : l.length ≤ 4096) (hi : InB W l) : Ev (fun k => tallystickref14_rowBytes.f k l) ⟨(rowL l).toArray⟩ := by
  unfold tallystickref14_rowBytes.f
  rw [wrap_id _ (by omega) (by omega)]
  have e2 := rowBytes_loop l hl hi l.length 0 (nb 4 l.length) (by omega) (by rw [nb_length]; omega)
  exact Ev.bind (refBytes_ev l.length 4 (by omega) (by omega)) e2
theorem rowL_length (l : List Int) : (rowL l).length = 4 + 8 * l.length := by
  unfold rowL
  rw [List.length_append, nb_length, wordsL_length]
/-- The document's bytes of a record that may be. -/
theorem refB_ev {R : RecF} (ho : okR R) : Ev (fun k => tallystickref14_Bytes.f k (R.1.1 : Int) (R.1.2.1 : Int) (R.1.2.2.1 : Int) (R.1.2.2.2.1 : Int) (R.1.2.2.2.2 : Int) R.2.1.1 R.2.1.2.1 R.2.1.2.2 R.2.2) (⟨(bytesL R).toArray⟩, 0) := by
  obtain ⟨m1, m2, m3⟩ := ok_len ho
  obtain ⟨⟨c, d, g, f, u⟩, ⟨p, q, r⟩, mi⟩ := R
  obtain ⟨lp, lq, lr⟩ := ok_len' ho
  obtain ⟨hm, ip, iq, ir⟩ := ho
  have hm' : mayV (c : Int) d g f u p q r = true := hm
  obtain ⟨_, b1, b2, b3, b4, b5, op, oq, or_⟩ := may_facts hm'
  dsimp only at lp lq lr m1 m2 m3 ip iq ir
  have hmay := refMay (c : Int) d g f u mi ip iq ir m1 m2 m3
  rw [hm'] at hmay
  have hsz := bytesL_len (R := ((c, d, g, f, u), (p, q, r), mi)) ⟨hm, ip, iq, ir⟩
  have hj : ∀ x5 : Nat, x5 = (if mi = true then 1 else 0) → Ev (fun k => tallystickref14_Bytes.j0 k (x5 : Int) (c : Int) (d : Int) (g : Int) (f : Int) (u : Int) p q r mi) (⟨(bytesL ((c, d, g, f, u), (p, q, r), mi)).toArray⟩, 0) := by
    intro x5 h5
    have h51 : x5 ≤ 1 := by rw [h5]; split <;> omega
    have hT : (⟨#[84, 65, 76, 89]⟩ : ByteArray) = ⟨([84, 65, 76, 89] : List UInt8).toArray⟩ := rfl
    refine Ev.succ ?_
    simp only [tallystickref14_Bytes.j0]
    rw [wrap_id (c : Int) (by omega) (by omega), wrap_id (d : Int) (by omega) (by omega), wrap_id (g : Int) (by omega) (by omega), wrap_id (f : Int) (by omega) (by omega), wrap_id (u : Int) (by omega) (by omega), hT]
    refine Ev.bind (refBytes_ev c 1 (by omega) (by omega)) (Ev.yes (by simp only [mk_size, nb_length]; omega) ?_)
    refine Ev.bind (refBytes_ev d 4 (by omega) (by omega)) (Ev.yes (by simp only [mk_app, mk_size, List.length_append, nb_length, List.length_cons, List.length_nil]; omega) ?_)
    refine Ev.bind (refBytes_ev g 4 (by omega) (by omega)) (Ev.yes (by simp only [mk_app, mk_size, List.length_append, nb_length, List.length_cons, List.length_nil]; omega) ?_)
    refine Ev.bind (refBytes_ev f 4 (by omega) (by omega)) (Ev.yes (by simp only [mk_app, mk_size, List.length_append, nb_length, List.length_cons, List.length_nil]; omega) ?_)
    refine Ev.bind (refBytes_ev u 4 (by omega) (by omega)) (Ev.yes (by simp only [mk_app, mk_size, List.length_append, nb_length, List.length_cons, List.length_nil]; omega) ?_)
    refine Ev.bind (refBytes_ev x5 1 (by omega) (by omega)) (Ev.yes (by simp only [mk_app, mk_size, List.length_append, nb_length, List.length_cons, List.length_nil]; omega) ?_)
    refine Ev.bind (refRowBytes_ev p lp ip) (Ev.yes (by simp only [mk_app, mk_size, List.length_append, nb_length, rowL_length, List.length_cons, List.length_nil]; omega) ?_)
    refine Ev.bind (refRowBytes_ev q lq iq) (Ev.yes (by simp only [mk_app, mk_size, List.length_append, nb_length, rowL_length, List.length_cons, List.length_nil]; omega) ?_)
    refine Ev.bind (refRowBytes_ev r lr ir) (Ev.yes (by simp only [mk_app, mk_size, List.length_append, nb_length, rowL_length, List.length_cons, List.length_nil]; omega) ?_)
    have hrec : ([84, 65, 76, 89] ++ nb 1 c ++ nb 4 d ++ nb 4 g ++ nb 4 f ++ nb 4 u ++ nb 1 x5 ++ rowL p ++ rowL q ++ rowL r : List UInt8) = recL ((c, d, g, f, u), (p, q, r), mi) := by
      unfold recL bodyL
      simp only [h5, List.append_assoc]
    simp only [mk_app, hrec]
    have hlen : (recL ((c, d, g, f, u), (p, q, r), mi)).length ≤ 200000 := by
      unfold bytesL at hsz
      rw [List.length_append] at hsz
      omega
    have hc := crcL_lt (recL ((c, d, g, f, u), (p, q, r), mi))
    have es := refSum_ev ⟨(recL ((c, d, g, f, u), (p, q, r), mi)).toArray⟩ (by rw [mk_size]; omega)
    rw [show bl (⟨(recL ((c, d, g, f, u), (p, q, r), mi)).toArray⟩ : ByteArray) = recL ((c, d, g, f, u), (p, q, r), mi) from rfl] at es
    refine Ev.bind es ?_
    rw [wrap_id _ (by omega) (by omega)]
    refine Ev.bind (refBytes_ev (crcL (recL ((c, d, g, f, u), (p, q, r), mi))) 4 (by omega) (by omega)) (Ev.yes (by simp only [mk_size, nb_length]; omega) (Ev.const ?_))
    rw [mk_app]
    rfl
  unfold tallystickref14_Bytes.f
  refine Ev.bind (Ev.const hmay) (Ev.yes (by first | rfl | trivial) ?_)
  cases mi with
  | true => exact Ev.yes rfl (hj 1 rfl)
  | false => exact Ev.no (fun h => Bool.noConfusion h) (hj 0 rfl)
theorem refB_no (a0 a1 a2 a3 a4 : Int) {p q r : List Int} (mi : Bool) (ip : InB W p) (iq : InB W q) (ir : InB W r) (hp : p.length ≤ maxLen) (hq : q.length ≤ maxLen) (hr : r.length ≤ maxLen) (hm : mayV a0 a1 a2 a3 a4 p q r = false) : Ev (fun k => tallystickref14_Bytes.f k a0 a1 a2 a3 a4 p q r mi) (⟨#[]⟩, 1) := by
  have hmay := refMay a0 a1 a2 a3 a4 mi ip iq ir hp hq hr
  rw [hm] at hmay
  unfold tallystickref14_Bytes.f
  exact Ev.bind (Ev.const hmay) (Ev.no (by decide) (Ev.const rfl))
/-! ### a row taken -/
/-- What the document's takeRow tells. -/
def rowRef (S : ByteArray) : List Int × ByteArray × Int :=
  match (rowF none S).2.1 with
  | none => ((rowF none S).1, (rowF none S).2.2, 0)
  | some e => ([], ⟨#[]⟩, e)
def endRef (w : List Int × Option Int × ByteArray) : List Int × ByteArray × Int :=
  match w.2.1 with
  | some e => ([], ⟨#[]⟩, e)
  | none => if ordV w.1 = true then (w.1, w.2.2, 0) else ([], ⟨#[]⟩, 6)
theorem inB_snoc {l : List Int} {v : Nat} (h : InB W l) (hv : v < 18446744073709551616) : InB W (l ++ [(v : Int)]) := by
  intro x hx
  rcases List.mem_append.1 hx with hx | hx
  · exact h x hx
  · rw [List.mem_singleton] at hx
    subst hx
    rw [W_eq]
    omega
theorem takeRow_loop (n : Nat) (hn : n ≤ 4096) : ∀ (d i : Nat) (S : ByteArray) (out : List Int), i + d = n → out.length = i → InB W out → Ev (fun k => tallystickref14_takeRow.l0 k S (n : Int) out (i : Int)) (endRef (wordsF d none S out))
  | 0, i, S, out, hi, ho, hb => by
    have hmx : maxLen = 9223372036854775807 := rfl
    refine Ev.succ ?_
    simp only [tallystickref14_takeRow.l0]
    refine Ev.no (by omega) (Ev.bind (Ev.const (refOrd hb (by omega))) (Ev.const ?_))
    show (if ordV out = true then some (out, S, (0 : Int)) else some (([] : List Int), (⟨#[]⟩ : ByteArray), (6 : Int))) = some (if ordV out = true then (out, S, 0) else ([], ⟨#[]⟩, 6))
    split <;> rfl
  | d + 1, i, S, out, hi, ho, hb => by
    refine Ev.succ ?_
    simp only [tallystickref14_takeRow.l0]
    refine Ev.yes (by omega) ?_
    by_cases h8 : S.size < 8
    · refine Ev.yes (by omega) (Ev.const ?_)
      have e : wordsF (d + 1) none S out = (out ++ [((0 : Nat) : Int)], some 5, S) := by
        show wordsF d (takeF 8 none S).2.1 (takeF 8 none S).2.2 (out ++ [(((takeF 8 none S).1 : Nat) : Int)]) = _
        unfold takeF
        simp only
        rw [if_pos h8]
        exact wordsF_err d 5 S _
      rw [e]
      rfl
    · have hz : (S.extract 0 8).size ≤ 8 := by rw [ByteArray.size_extract]; omega
      have e : wordsF (d + 1) none S out = wordsF d none (S.extract 8 S.size) (out ++ [((numF (bl (S.extract 0 8)) 0 : Nat) : Int)]) := by
        show wordsF d (takeF 8 none S).2.1 (takeF 8 none S).2.2 (out ++ [(((takeF 8 none S).1 : Nat) : Int)]) = _
        unfold takeF
        simp only
        rw [if_neg h8]
      rw [e]
      have hv : numF (bl (S.extract 0 8)) 0 < 18446744073709551616 := by
        have := numF_lt (bl (S.extract 0 8))
        rw [show (bl (S.extract 0 8)).length = 8 by rw [bl_first, List.length_take, bl_len]; omega] at this
        exact this
      refine Ev.no (by omega) (Ev.yes (by omega) (Ev.yes (by omega) (Ev.bind (number_ev (S.extract 0 8) hz) (Ev.yes (by omega) ?_))))
      rw [wrap_id _ (by omega) (by omega)]
      exact takeRow_loop n hn d (i + 1) _ _ (by omega) (by rw [List.length_append, ho]; rfl) (inB_snoc hb hv)
theorem takeRow_ev (S : ByteArray) : Ev (fun k => tallystickref14_takeRow.f k S) (rowRef S) := by
  unfold tallystickref14_takeRow.f
  by_cases h4 : S.size < 4
  · refine Ev.yes (by omega) (Ev.const ?_)
    have e : rowF none S = ([], some 5, S) := by
      unfold rowF takeF
      simp only
      rw [if_pos h4]
      rfl
    unfold rowRef
    rw [e]
  · have hz : (S.extract 0 4).size ≤ 8 := by rw [ByteArray.size_extract]; omega
    have ht : takeF 4 none S = (numF (bl (S.extract 0 4)) 0, none, S.extract 4 S.size) := by
      unfold takeF
      simp only
      rw [if_neg h4]
    refine Ev.no (by omega) (Ev.yes (by omega) (Ev.yes (by omega) (Ev.bind (number_ev (S.extract 0 4) hz) ?_)))
    have hn0 : numF (bl (S.extract 0 4)) 0 = (takeF 4 none S).1 := by rw [ht]
    by_cases hn : numF (bl (S.extract 0 4)) 0 > 4096
    · refine Ev.yes (by omega) (Ev.const ?_)
      have e : rowF none S = ([], some 4, S.extract 4 S.size) := by
        unfold rowF
        rw [ht]
        simp only
        rw [if_pos hn, show (none : Option Int).or (some 4) = some 4 from rfl, wordsF_err]
        simp
      unfold rowRef
      rw [e]
    · refine Ev.no (by omega) ?_
      have e := takeRow_loop (numF (bl (S.extract 0 4)) 0) (by omega) (numF (bl (S.extract 0 4)) 0) 0 (S.extract 4 S.size) [] (by omega) rfl inB_nil'
      have e2 : endRef (wordsF (numF (bl (S.extract 0 4)) 0) none (S.extract 4 S.size) []) = rowRef S := by
        unfold rowRef rowF
        rw [ht]
        simp only
        rw [if_neg hn]
        cases hw : (wordsF (numF (bl (S.extract 0 4)) 0) none (S.extract 4 S.size) []).2.1 with
        | some e =>
          unfold endRef
          rw [hw]
          have : ∀ (c : Prop) [Decidable c], (if c then (some e).or (some 6) else some e : Option Int) = some e := by intro c _; split <;> rfl
          simp only [this]
        | none =>
          obtain ⟨_, l, hl, hi, h1, _⟩ := words_bwd _ _ _ _ hw
          rw [List.nil_append] at h1
          unfold endRef
          rw [hw, h1]
          have hd := (norm_facts hi).1
          simp only
          by_cases hc : (dig W (val W l)).length < l.length
          · rw [if_pos hc]
            have : ordV l = false := by
              unfold ordV
              rw [Bool.and_eq_false_iff, decide_eq_false_iff_not, decide_eq_false_iff_not]
              right
              omega
            rw [this]
            rfl
          · rw [if_neg hc]
            have : ordV l = true := by
              unfold ordV
              rw [Bool.and_eq_true, decide_eq_true_eq, decide_eq_true_eq]
              omega
            rw [this]
            rfl
      rw [e2] at e
      exact e
end Go.Proofs.YtanjahakoadecaaDoor.Pure
