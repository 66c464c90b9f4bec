/- Law 14: what crc.Bytes tells with enough rounds: just a record's bytes. -/
import Derived.Test.YtanjahakoadecaaDoorPc4
import Derived.Test.YtanjahakoadecaaDoorPCrcE
import Derived.IntWalk
namespace Go.Proofs.YtanjahakoadecaaDoor.Pure
open Go.RowKit Go.Proofs.YtanjahakoadecaaDoor.Pc Go.Proofs.YtanjahakoadecaaDoorW.PrintWords Go.Proofs.YtanjahakoadecaaDoorW.PrintLast Go.Proofs.YtanjahakoadecaaDoorW.PrintMore Go.Proofs.YtanjahakoadecaaDoor.Hand Go.Proofs.YtanjahakoadecaaDoor.Num
set_option linter.unusedVariables false
set_option linter.unusedSimpArgs false

/-- With enough fuel F answers r. -/
def Ev {α : Type} (F : Nat → Option α) (r : α) : Prop := ∃ K, ∀ k, K ≤ k → F k = some r
theorem Ev.succ {α : Type} {F : Nat → Option α} {r : α} (h : Ev (fun k => F (k + 1)) r) : Ev F r := by
  obtain ⟨K, h⟩ := h
  refine ⟨K + 1, fun k hk => ?_⟩
  obtain ⟨j, rfl⟩ : ∃ j, k = j + 1 := ⟨k - 1, by omega⟩
  exact h j (by omega)
theorem Ev.const {α : Type} {x : Option α} {r : α} (h : x = some r) : Ev (fun _ => x) r := ⟨0, fun _ _ => h⟩
theorem Ev.congr {α : Type} {F G : Nat → Option α} {r : α} (h : ∀ k, F k = G k) (hg : Ev G r) : Ev F r := by
  obtain ⟨K, hg⟩ := hg
  exact ⟨K, fun k hk => (h k).trans (hg k hk)⟩
theorem Ev.bind {α β : Type} {f : Nat → Option α} {g : Nat → α → Option β} {a : α} {r : β} (h : Ev f a) (h2 : Ev (fun k => g k a) r) : Ev (fun k => (f k).bind (g k)) r := by
  obtain ⟨K, h⟩ := h
  obtain ⟨K2, h2⟩ := h2
  refine ⟨max K K2, fun k hk => ?_⟩
  show (f k).bind (g k) = some r
  rw [h k (by omega)]
  exact h2 k (by omega)
theorem Ev.get {α : Type} {F : Nat → Option α} {r : α} (h : Ev F r) : ∃ k, F k = some r := by
  obtain ⟨K, h⟩ := h
  exact ⟨K, h K (Nat.le_refl _)⟩
theorem Ev.yes {α : Type} {c : Prop} [Decidable c] {A B : Nat → Option α} {r : α} (h : c) (hA : Ev A r) : Ev (fun k => if c then A k else B k) r := Ev.congr (fun k => if_pos h) hA
theorem Ev.no {α : Type} {c : Prop} [Decidable c] {A B : Nat → Option α} {r : α} (h : ¬ c) (hB : Ev B r) : Ev (fun k => if c then A k else B k) r := Ev.congr (fun k => if_neg h) hB
theorem w_less (j : Nat) (h : j ≤ 17592186044416) : wrap64 ((j : Int) - 1) = (j : Int) - 1 := IntWalk.wrap64_in _ (by omega)
theorem w_more (j : Nat) (h : j ≤ 17592186044416) : wrap64 ((j : Int) + 1) = ((j + 1 : Nat) : Int) := IntWalk.wrap64_in _ (by omega)
theorem w_eight (j : Nat) (h : j ≤ 1000) : wrap64 (8 * (j : Int)) = 8 * (j : Int) := IntWalk.wrap64_in _ (by omega)
/-- What num lays. -/
def numT (v : Int) : Nat → List Int
  | 0 => []
  | j + 1 => [(shr .u64 v (wrap64 (8 * (j : Int)))) % 256] ++ numT v j
theorem numT_length (v : Int) : ∀ j, (numT v j).length = j
  | 0 => rfl
  | j + 1 => by unfold numT; rw [List.length_append, numT_length v j]; simp; omega
theorem num_loop (v : Int) : ∀ (j : Nat) (b : List Int), j ≤ 8 → b.length + j ≤ 1000000 → Ev (fun k => crc_num.l0 k b v ((j : Int) - 1)) (b ++ numT v j)
  | 0, b, _, _ => by
    refine Ev.succ ?_
    simp only [crc_num.l0]
    exact Ev.no (by omega) (Ev.const (by unfold numT; rw [List.append_nil]))
  | j + 1, b, hj, hb => by
    have he := num_loop v j (b ++ [(shr .u64 v (wrap64 (8 * (j : Int)))) % 256]) (by omega) (by rw [List.length_append]; simp; omega)
    unfold numT
    rw [show ((j + 1 : Nat) : Int) - 1 = (j : Int) by omega]
    refine Ev.succ ?_
    simp only [crc_num.l0]
    refine Ev.yes (by omega) (Ev.yes (by rw [w_eight j (by omega)]; omega) (Ev.yes (by omega) ?_))
    rw [w_less j (by omega)]
    rw [← List.append_assoc]
    exact he
theorem num_at (b : List Int) (v : Int) (n : Nat) (hn : n ≤ 8) (hb : b.length + n ≤ 1000000) : Ev (fun k => crc_num.f k b v (n : Int)) (b ++ numT v n) := by
  have he := num_loop v n b hn hb
  unfold crc_num.f
  rw [w_less n (by omega)]
  exact he
/-- The bytes of a row of numbers. -/
abbrev by8 (l : List Int) : List UInt8 := l.map fun n => UInt8.ofNat n.toNat
theorem by8_app (a b : List Int) : by8 (a ++ b) = by8 a ++ by8 b := List.map_append
theorem shr_at (V j : Nat) (hj : j ≤ 7) : (shr .u64 (V : Int) (wrap64 (8 * (j : Int)))) % 256 = ((V / 256 ^ j % 256 : Nat) : Int) := by
  rw [w_eight j (by omega)]
  unfold shr
  rw [show min (8 * (j : Int)).toNat IntKind.u64.bits = 8 * j by show min (8 * (j : Int)).toNat 64 = 8 * j; omega]
  have e : ((2 ^ (8 * j) : Nat) : Int) = (2 : Int) ^ (8 * j) := Int.natCast_pow 2 (8 * j)
  rw [← e, Nat.pow_mul]
  rfl
theorem by8_num : ∀ (m v : Nat), m ≤ 8 → by8 (numT (v : Int) m) = nb m v
  | 0, v, _ => rfl
  | m + 1, v, h => by
    unfold numT nb
    rw [shr_at v m (by omega), by8_app, by8_num m v (by omega)]
    show UInt8.ofNat (((v / 256 ^ m % 256 : Nat) : Int)).toNat :: nb m v = _
    rw [Int.toNat_natCast]
theorem wrap_id (a : Int) (h0 : 0 ≤ a) (h1 : a < 18446744073709551616) : IntKind.u64.wrap a = a := by
  show a % 18446744073709551616 = a
  omega
/-- The words of a row. -/
def wordsT (l : List Int) : List Int := l.flatMap fun x => numT x 8
theorem wordsT_length : ∀ l : List Int, (wordsT l).length = 8 * l.length
  | [] => rfl
  | x :: l => by
    show ((numT x 8) ++ wordsT l).length = _
    rw [List.length_append, numT_length, wordsT_length l, List.length_cons]
    omega
theorem by8_words : ∀ {l : List Int}, InB W l → by8 (wordsT l) = wordsL l
  | [], _ => rfl
  | x :: l, h => by
    show by8 (numT x 8 ++ wordsT l) = nb 8 x.toNat ++ wordsL l
    have hx := h x (List.mem_cons_self ..)
    rw [W_eq] at hx
    rw [by8_app, by8_words (fun y hy => h y (List.mem_cons_of_mem _ hy)), ← by8_num 8 x.toNat (by omega), show ((x.toNat : Nat) : Int) = x by omega]
/-- A row. -/
def rowT (l : List Int) : List Int := numT (l.length : Int) 4 ++ wordsT l
theorem rowT_length (l : List Int) : (rowT l).length = 4 + 8 * l.length := by
  unfold rowT
  rw [List.length_append, numT_length, wordsT_length]
theorem by8_row {l : List Int} (h : InB W l) : by8 (rowT l) = rowL l := by
  unfold rowT rowL
  rw [by8_app, by8_words h, by8_num 4 l.length (by omega)]
theorem rd_at (l : List Int) (i : Nat) (h : i < l.length) : rd l (i : Int) = l[i] := by
  unfold rd
  simp [h]
/-- The words of a row, told. -/
theorem row_loop (rows : List (List Int)) (row : List Int) (m : Nat) (hr : row.length ≤ 4096) (res : ByteArray × Int) : ∀ (d i : Nat) (b : List Int), i + d = row.length → b.length + 8 * d ≤ 500000 →
    Ev (fun k => crc_Bytes.l1 k (b ++ wordsT (row.drop i)) rows 3 (wrap64 ((m : Int) + 1))) res → Ev (fun k => crc_Bytes.l2 k b rows 3 (m : Int) row (row.length : Int) (i : Int)) res
  | 0, i, b, hi, _, h => by
    refine Ev.succ ?_
    simp only [crc_Bytes.l2]
    rw [List.drop_of_length_le (by omega)] at h
    rw [show b ++ wordsT [] = b by simp [wordsT]] at h
    exact Ev.no (by omega) h
  | d + 1, i, b, hi, hb, h => by
    have hil : i < row.length := by omega
    refine Ev.succ ?_
    simp only [crc_Bytes.l2]
    have e1 := num_at b (rd row (i : Int)) 8 (by omega) (by omega)
    refine Ev.yes (by omega) (Ev.yes (by omega) (Ev.yes (by omega) (Ev.bind e1 ?_)))
    rw [w_more i (by omega)]
    refine row_loop rows row m hr res d (i + 1) (b ++ numT (rd row (i : Int)) 8) (by omega) (by rw [List.length_append, numT_length]; omega) ?_
    rw [List.drop_eq_getElem_cons hil] at h
    rw [rd_at row i hil, List.append_assoc]
    exact h
/-- A text's sum, as num is handed it. -/
def sumOf (b : List Int) : Int := IntKind.u64.wrap ((4294967295 ^^^ crcFold (strOfNums b).data.toList 4294967295 : Nat) : Int)
/-- All rows from the one of number m on, and the sum. -/
theorem rows_loop (rows : List (List Int)) (h3 : rows.length = 3) (hw : ∀ x ∈ rows, x.length ≤ 4096) : ∀ (d m : Nat) (b : List Int), m + d = 3 → b.length + d * 40000 ≤ 300000 →
    Ev (fun k => crc_Bytes.l1 k b rows 3 (m : Int)) (strOfNums (b ++ (rows.drop m).flatMap rowT ++ numT (sumOf (b ++ (rows.drop m).flatMap rowT)) 4), 0)
  | 0, m, b, hm, hb => by
    have hs : crc_Sum.f (strOfNums b) = some ((4294967295 ^^^ crcFold (strOfNums b).data.toList 4294967295 : Nat) : Int) := by
      unfold crc_Sum.f
      rw [if_pos (by rw [strOfNums_size]; omega)]
    have he := num_at b (sumOf b) 4 (by omega) (by omega)
    rw [List.drop_eq_nil_of_le (by omega), List.flatMap_nil, List.append_nil]
    refine Ev.succ ?_
    simp only [crc_Bytes.l1]
    exact Ev.no (by omega) (Ev.bind (Ev.const hs) (Ev.bind he (Ev.const rfl)))
  | d + 1, m, b, hm, hb => by
    have hml : m < rows.length := by omega
    have hrow : rd_L2 rows (m : Int) = rows[m] := by
      unfold rd_L2
      simp [hml]
    have hx := hw rows[m] (List.getElem_mem hml)
    have hdrop : rows.drop m = rows[m] :: rows.drop (m + 1) := List.drop_eq_getElem_cons hml
    rw [hdrop, List.flatMap_cons]
    refine Ev.succ ?_
    simp only [crc_Bytes.l1]
    rw [hrow]
    have e1 := num_at b (IntKind.u64.wrap (rows[m].length : Int)) 4 (by omega) (by omega)
    refine Ev.yes (by omega) (Ev.yes (by omega) (Ev.yes (by omega) (Ev.bind e1 ?_)))
    rw [wrap_id _ (by omega) (by omega)]
    refine row_loop rows rows[m] m hx _ rows[m].length 0 _ (by omega) (by rw [List.length_append, numT_length]; omega) ?_
    rw [List.drop_zero, w_more m (by omega)]
    have hl : (b ++ numT (rows[m].length : Int) 4 ++ wordsT rows[m]).length = b.length + 4 + 8 * rows[m].length := by rw [List.length_append, List.length_append, numT_length, wordsT_length]
    have e3 := rows_loop rows h3 hw d (m + 1) (b ++ numT (rows[m].length : Int) 4 ++ wordsT rows[m]) (by omega) (by rw [hl]; omega)
    rw [show b ++ (rowT rows[m] ++ (rows.drop (m + 1)).flatMap rowT) = b ++ numT (rows[m].length : Int) 4 ++ wordsT rows[m] ++ (rows.drop (m + 1)).flatMap rowT by simp [rowT, List.append_assoc]]
    exact e3
/-- The four numbers of four bytes, then the sign. -/
theorem nums_loop (a0 a1 a2 a3 a4 : Int) (h1 : 0 ≤ a1 ∧ a1 ≤ 2147483647) (h2 : 0 ≤ a2 ∧ a2 ≤ 2147483647) (h3 : 0 ≤ a3 ∧ a3 ≤ 2147483647) (h4 : 0 ≤ a4 ∧ a4 ≤ 2147483647) (p q r : List Int) (mi : Bool) (res : ByteArray × Int) : ∀ (d i : Nat) (b : List Int), i + d = 4 → b.length + 4 * d ≤ 1000 →
    Ev (fun k => crc_Bytes.j1 k (b ++ (([a1, a2, a3, a4] : List Int).drop i).flatMap fun x => numT x 4) (if mi = true then 1 else 0) a0 a1 a2 a3 a4 p q r mi) res → Ev (fun k => crc_Bytes.l0 k b [a1, a2, a3, a4] 4 (i : Int) a0 a1 a2 a3 a4 p q r mi) res
  | 0, i, b, hi, _, h => by
    refine Ev.succ ?_
    simp only [crc_Bytes.l0]
    rw [List.drop_of_length_le (by simp; omega), List.flatMap_nil, List.append_nil] at h
    refine Ev.no (by omega) ?_
    cases mi with
    | true => exact Ev.yes rfl h
    | false => exact Ev.no (by decide) h
  | d + 1, i, b, hi, hb, h => by
    have hil : i < ([a1, a2, a3, a4] : List Int).length := by show i < 4; omega
    have hrd : rd [a1, a2, a3, a4] (i : Int) = ([a1, a2, a3, a4] : List Int)[i] := rd_at _ i hil
    have hmem : ([a1, a2, a3, a4] : List Int)[i] ∈ [a1, a2, a3, a4] := List.getElem_mem hil
    have hbd : 0 ≤ ([a1, a2, a3, a4] : List Int)[i] ∧ ([a1, a2, a3, a4] : List Int)[i] ≤ 2147483647 := by
      have key : ∀ x ∈ [a1, a2, a3, a4], 0 ≤ x ∧ x ≤ 2147483647 := by
        intro x hx
        simp only [List.mem_cons, List.not_mem_nil, or_false] at hx
        rcases hx with rfl | rfl | rfl | rfl <;> assumption
      exact key _ hmem
    refine Ev.succ ?_
    simp only [crc_Bytes.l0]
    rw [hrd, wrap_id _ hbd.1 (by omega)]
    have e1 := num_at b (([a1, a2, a3, a4] : List Int)[i]) 4 (by omega) (by omega)
    refine Ev.yes (by omega) (Ev.yes (by omega) (Ev.yes (by show (i : Int) < 4; omega) (Ev.bind e1 ?_)))
    rw [w_more i (by omega)]
    refine nums_loop a0 a1 a2 a3 a4 h1 h2 h3 h4 p q r mi res d (i + 1) _ (by omega) (by rw [List.length_append, numT_length]; omega) ?_
    rw [List.drop_eq_getElem_cons hil, List.flatMap_cons, ← List.append_assoc] at h
    exact h
/-- A record's bytes, if it may be. -/
theorem bytes_ev {R : RecF} (ho : okR R) : Ev (fun k => crc_Bytes.f k (R.1.1 : Int) (R.1.2.1 : Int) (R.1.2.2.1 : Int) (R.1.2.2.2.1 : Int) (R.1.2.2.2.2 : Int) R.2.1.1 R.2.1.2.1 R.2.1.2.2 R.2.2) (⟨(bytesL R).toArray⟩, 0) := by
  obtain ⟨⟨c, d, g, f, u⟩, ⟨p, q, r⟩, mi⟩ := R
  obtain ⟨hm, ip, iq, ir⟩ := ho
  have hm' : mayV (c : Int) d g f u p q r = true := hm
  obtain ⟨_, b1, b2, b3, b4, b5, op, oq, or_⟩ := may_facts hm'
  have lp : p.length ≤ 4096 := by unfold ordV at op; rw [Bool.and_eq_true, decide_eq_true_eq] at op; exact op.1
  have lq : q.length ≤ 4096 := by unfold ordV at oq; rw [Bool.and_eq_true, decide_eq_true_eq] at oq; exact oq.1
  have lr : r.length ≤ 4096 := by unfold ordV at or_; rw [Bool.and_eq_true, decide_eq_true_eq] at or_; exact or_.1
  have hmf : crc_may.f (c : Int) d g f u p q r mi = some true := by
    unfold crc_may.f
    rw [if_pos ⟨inb_iff.2 ip, inb_iff.2 iq, inb_iff.2 ir⟩, hm']
  show Ev (fun k => crc_Bytes.f k (c : Int) (d : Int) (g : Int) (f : Int) (u : Int) p q r mi) (⟨(bytesL ((c, d, g, f, u), (p, q, r), mi)).toArray⟩, 0)
  have hT : ∃ T : List Int, T = [84, 65, 76, 89] ++ [(c : Int) % 256] ++ ([(d : Int), (g : Int), (f : Int), (u : Int)].flatMap fun x => numT x 4) ++ [if mi = true then 1 else 0] ++ ([p, q, r].flatMap rowT) := ⟨_, rfl⟩
  obtain ⟨T, hT⟩ := hT
  have hb : by8 T = recL ((c, d, g, f, u), (p, q, r), mi) := by
    rw [hT]
    simp only [List.flatMap_cons, List.flatMap_nil, List.append_nil, by8_app, by8_row ip, by8_row iq, by8_row ir, by8_num 4 d (by omega), by8_num 4 g (by omega), by8_num 4 f (by omega), by8_num 4 u (by omega)]
    unfold recL bodyL
    simp only [nb_one]
    have e1 : by8 [(c : Int) % 256] = [UInt8.ofNat (c % 256)] := by
      simp only [by8, List.map_cons, List.map_nil]
      rw [show ((c : Int) % 256).toNat = c % 256 by omega]
    have e2 : by8 [if mi = true then 1 else 0] = [UInt8.ofNat ((if mi = true then 1 else 0) % 256)] := by cases mi <;> rfl
    rw [e1, e2]
    simp only [List.append_assoc]
    rfl
  have hsum : sumOf T = ((crcL (recL ((c, d, g, f, u), (p, q, r), mi)) : Nat) : Int) := by
    unfold sumOf
    rw [strOfNums_data]
    show IntKind.u64.wrap ((crcL (by8 T) : Nat) : Int) = _
    rw [hb]
    have := crcL_lt (recL ((c, d, g, f, u), (p, q, r), mi))
    exact wrap_id _ (by omega) (by omega)
  have hres : (⟨(bytesL ((c, d, g, f, u), (p, q, r), mi)).toArray⟩ : ByteArray) = strOfNums (T ++ numT (sumOf T) 4) := by
    apply bl_inj
    show bytesL _ = by8 (T ++ numT (sumOf T) 4)
    rw [by8_app, hb, hsum, by8_num 4 _ (by omega)]
    rfl
  rw [hres]
  have hl : ([84, 65, 76, 89] ++ [(c : Int) % 256] ++ ([(d : Int), (g : Int), (f : Int), (u : Int)].flatMap fun x => numT x 4) ++ [if mi = true then 1 else 0]).length = 22 := by
    simp [numT_length]
  have e2 := rows_loop [p, q, r] rfl (by intro x hx; simp at hx; rcases hx with rfl | rfl | rfl <;> assumption) 3 0 ([84, 65, 76, 89] ++ [(c : Int) % 256] ++ ([(d : Int), (g : Int), (f : Int), (u : Int)].flatMap fun x => numT x 4) ++ [if mi = true then 1 else 0]) (by omega) (by rw [hl]; omega)
  rw [List.drop_zero, ← hT] at e2
  unfold crc_Bytes.f
  refine Ev.bind (Ev.const hmf) (Ev.yes (by first | rfl | trivial) ?_)
  refine Ev.bind (Ev.const (rfl : some [84, 65, 76, 89] = some ([84, 65, 76, 89] : List Int))) ?_
  refine Ev.yes (by decide) (Ev.bind (Ev.const (rfl : some [(d : Int), (g : Int), (f : Int), (u : Int)] = some ([(d : Int), (g : Int), (f : Int), (u : Int)] : List Int))) ?_)
  refine nums_loop (c : Int) d g f u (by omega) (by omega) (by omega) (by omega) p q r mi _ 4 0 ([84, 65, 76, 89] ++ [(c : Int) % 256]) (by omega) (by simp) ?_
  refine Ev.succ ?_
  simp only [crc_Bytes.j1]
  refine Ev.yes (by simp [numT_length]) (Ev.bind (Ev.const (rfl : some [p, q, r] = some ([p, q, r] : List (List Int)))) ?_)
  exact e2
/-- A record that may not be has no bytes. -/
theorem bytes_no (a0 a1 a2 a3 a4 : Int) {p q r : List Int} (mi : Bool) (ip : InB W p) (iq : InB W q) (ir : InB W r) (hm : mayV a0 a1 a2 a3 a4 p q r = false) : Ev (fun k => crc_Bytes.f k a0 a1 a2 a3 a4 p q r mi) (⟨#[]⟩, 1) := by
  have hmf : crc_may.f a0 a1 a2 a3 a4 p q r mi = some false := by
    unfold crc_may.f
    rw [if_pos ⟨inb_iff.2 ip, inb_iff.2 iq, inb_iff.2 ir⟩, hm]
  unfold crc_Bytes.f
  exact Ev.bind (Ev.const hmf) (Ev.no (by decide) (Ev.const rfl))
end Go.Proofs.YtanjahakoadecaaDoor.Pure
