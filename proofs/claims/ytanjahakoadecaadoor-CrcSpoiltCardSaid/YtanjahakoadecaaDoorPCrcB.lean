/- Facts under the laws of records: what a record's bytes are behind their beginning: so many, then the four bytes of their sum. -/
import Derived.Test.YtanjahakoadecaaDoorPb2
import Derived.Test.YtanjahakoadecaaDoorHCrcB
import Derived.OpenShut
import Derived.IntWalk
namespace Go.Proofs.YtanjahakoadecaaDoor.Pure
open Go.RowKit Go.Proofs.YtanjahakoadecaaDoor.Pb Go.Proofs.YtanjahakoadecaaDoorW.PrintWords Go.Proofs.YtanjahakoadecaaDoorW.PrintLast Go.Proofs.YtanjahakoadecaaDoorW.PrintMore Go.Proofs.YtanjahakoadecaaDoor.Hand Go.Proofs.YtanjahakoadecaaDoor.Num
set_option linter.unusedVariables false
set_option linter.unusedSimpArgs false

/-- With enough fuel F answers r. -/
def Ev {α : Type} (F : Nat → Option α) (r : α) : Prop := ∃ K, ∀ k, K ≤ k → F k = some r
theorem Ev.succ {α : Type} {F : Nat → Option α} {r : α} (h : Ev (fun k => F (k + 1)) r) : Ev F r := by
  obtain ⟨K, h⟩ := h
  refine ⟨K + 1, fun k hk => ?_⟩
  obtain ⟨j, rfl⟩ : ∃ j, k = j + 1 := ⟨k - 1, by omega⟩
  exact h j (by omega)
theorem Ev.const {α : Type} {x : Option α} {r : α} (h : x = some r) : Ev (fun _ => x) r := ⟨0, fun _ _ => h⟩
theorem Ev.congr {α : Type} {F G : Nat → Option α} {r : α} (h : ∀ k, F k = G k) (hg : Ev G r) : Ev F r := by
  obtain ⟨K, hg⟩ := hg
  exact ⟨K, fun k hk => (h k).trans (hg k hk)⟩
theorem Ev.bind {α β : Type} {f : Nat → Option α} {g : Nat → α → Option β} {a : α} {r : β} (h : Ev f a) (h2 : Ev (fun k => g k a) r) : Ev (fun k => (f k).bind (g k)) r := by
  obtain ⟨K, h⟩ := h
  obtain ⟨K2, h2⟩ := h2
  refine ⟨max K K2, fun k hk => ?_⟩
  show (f k).bind (g k) = some r
  rw [h k (by omega)]
  exact h2 k (by omega)
theorem Ev.get {α : Type} {F : Nat → Option α} {r : α} (h : Ev F r) : ∃ k, F k = some r := by
  obtain ⟨K, h⟩ := h
  exact ⟨K, h K (Nat.le_refl _)⟩
theorem Ev.yes {α : Type} {c : Prop} [Decidable c] {A B : Nat → Option α} {r : α} (h : c) (hA : Ev A r) : Ev (fun k => if c then A k else B k) r := Ev.congr (fun k => if_pos h) hA
theorem Ev.no {α : Type} {c : Prop} [Decidable c] {A B : Nat → Option α} {r : α} (h : ¬ c) (hB : Ev B r) : Ev (fun k => if c then A k else B k) r := Ev.congr (fun k => if_neg h) hB
theorem w_less (j : Nat) (h : j ≤ 17592186044416) : wrap64 ((j : Int) - 1) = (j : Int) - 1 := IntWalk.wrap64_in _ (by omega)
theorem w_more (j : Nat) (h : j ≤ 17592186044416) : wrap64 ((j : Int) + 1) = ((j + 1 : Nat) : Int) := IntWalk.wrap64_in _ (by omega)
theorem w_eight (j : Nat) (h : j ≤ 1000) : wrap64 (8 * (j : Int)) = 8 * (j : Int) := IntWalk.wrap64_in _ (by omega)
/-- What num lays. -/
def numT (v : Int) : Nat → List Int
  | 0 => []
  | j + 1 => [(shr .u64 v (wrap64 (8 * (j : Int)))) % 256] ++ numT v j
theorem numT_length (v : Int) : ∀ j, (numT v j).length = j
  | 0 => rfl
  | j + 1 => by unfold numT; rw [List.length_append, numT_length v j]; simp; omega
theorem num_loop (v : Int) : ∀ (j : Nat) (b : List Int), j ≤ 8 → b.length + j ≤ 1000000 → Ev (fun k => crc_num.l0 k b v ((j : Int) - 1)) (b ++ numT v j)
  | 0, b, _, _ => by
    refine Ev.succ ?_
    simp only [crc_num.l0]
    exact Ev.no (by omega) (Ev.const (by unfold numT; rw [List.append_nil]))
  | j + 1, b, hj, hb => by
    have he := num_loop v j (b ++ [(shr .u64 v (wrap64 (8 * (j : Int)))) % 256]) (by omega) (by rw [List.length_append]; simp; omega)
    unfold numT
    rw [show ((j + 1 : Nat) : Int) - 1 = (j : Int) by omega]
    refine Ev.succ ?_
    simp only [crc_num.l0]
    refine Ev.yes (by omega) (Ev.yes (by rw [w_eight j (by omega)]; omega) (Ev.yes (by omega) ?_))
    rw [w_less j (by omega)]
    rw [← List.append_assoc]
    exact he
theorem num_at (b : List Int) (v : Int) (n : Nat) (hn : n ≤ 8) (hb : b.length + n ≤ 1000000) : Ev (fun k => crc_num.f k b v (n : Int)) (b ++ numT v n) := by
  have he := num_loop v n b hn hb
  unfold crc_num.f
  rw [w_less n (by omega)]
  exact he
theorem num_ev (b : List Int) (v : Int) (n : Nat) (hn : n ≤ 8) (hb : b.length + n ≤ 1000000) : ∃ t : List Int, t.length = n ∧ Ev (fun k => crc_num.f k b v (n : Int)) (b ++ t) := ⟨_, numT_length v n, num_at b v n hn hb⟩
/-- A text's sum, as num is handed it. -/
def sumOf (b : List Int) : Int := IntKind.u64.wrap ((4294967295 ^^^ crcFold (strOfNums b).data.toList 4294967295 : Nat) : Int)
/-- The words of a row. -/
theorem row_loop (rows : List (List Int)) (row : List Int) (m : Nat) (hr : row.length ≤ 4096) : ∀ (d i : Nat) (b : List Int), i + d = row.length → b.length + 8 * d ≤ 500000 →
    ∃ t : List Int, t.length = 8 * d ∧ ∀ r, (Ev (fun k => crc_Bytes.l1 k (b ++ t) rows 3 (wrap64 ((m : Int) + 1))) r → Ev (fun k => crc_Bytes.l2 k b rows 3 (m : Int) row (row.length : Int) (i : Int)) r)
  | 0, i, b, hi, _ => ⟨[], rfl, fun r h => by
    refine Ev.succ ?_
    simp only [crc_Bytes.l2]
    rw [List.append_nil] at h
    exact Ev.no (by omega) h⟩
  | d + 1, i, b, hi, hb => by
    obtain ⟨t1, h1, e1⟩ := num_ev b (rd row (i : Int)) 8 (by omega) (by omega)
    obtain ⟨t2, h2, e2⟩ := row_loop rows row m hr d (i + 1) (b ++ t1) (by omega) (by rw [List.length_append, h1]; omega)
    refine ⟨t1 ++ t2, by rw [List.length_append, h1, h2]; omega, fun r h => ?_⟩
    refine Ev.succ ?_
    simp only [crc_Bytes.l2]
    refine Ev.yes (by omega) (Ev.yes (by omega) (Ev.yes (by omega) (Ev.bind e1 ?_)))
    rw [w_more i (by omega)]
    rw [← List.append_assoc] at h
    exact e2 r h
/-- All rows from the one of number m on, and the sum. -/
theorem rows_loop (rows : List (List Int)) (h3 : rows.length = 3) (hw : ∀ x ∈ rows, x.length ≤ 4096) : ∀ (d m : Nat) (b : List Int), m + d = 3 → b.length + d * 40000 ≤ 300000 →
    ∃ t : List Int, t.length = 4 * d + 8 * ((rows.drop m).map List.length).sum ∧ Ev (fun k => crc_Bytes.l1 k b rows 3 (m : Int)) (strOfNums (b ++ t ++ numT (sumOf (b ++ t)) 4), 0)
  | 0, m, b, hm, hb => by
    have hs : crc_Sum.f (strOfNums b) = some ((4294967295 ^^^ crcFold (strOfNums b).data.toList 4294967295 : Nat) : Int) := by
      unfold crc_Sum.f
      rw [if_pos (by rw [strOfNums_size]; omega)]
    have he := num_at b (sumOf b) 4 (by omega) (by omega)
    refine ⟨[], ?_, ?_⟩
    · rw [List.drop_eq_nil_of_le (by omega)]; rfl
    · rw [List.append_nil]
      refine Ev.succ ?_
      simp only [crc_Bytes.l1]
      exact Ev.no (by omega) (Ev.bind (Ev.const hs) (Ev.bind he (Ev.const rfl)))
  | d + 1, m, b, hm, hb => by
    have hml : m < rows.length := by omega
    have hrow : rd_L2 rows (m : Int) = rows[m] := by
      unfold rd_L2
      simp [hml]
    have hx := hw rows[m] (List.getElem_mem hml)
    obtain ⟨t1, h1, e1⟩ := num_ev b (IntKind.u64.wrap ((rd_L2 rows (m : Int)).length : Int)) 4 (by omega) (by omega)
    have hlr : (rd_L2 rows (m : Int)).length ≤ 4096 := by rw [hrow]; exact hx
    have hdrop : rows.drop m = rows[m] :: rows.drop (m + 1) := List.drop_eq_getElem_cons hml
    obtain ⟨t2, h2, e2⟩ := row_loop rows (rd_L2 rows (m : Int)) m hlr (rd_L2 rows (m : Int)).length 0 (b ++ t1) (by omega) (by rw [List.length_append, h1]; omega)
    obtain ⟨t3, h4, e3⟩ := rows_loop rows h3 hw d (m + 1) (b ++ t1 ++ t2) (by omega) (by rw [List.length_append, List.length_append, h1, h2]; omega)
    refine ⟨t1 ++ t2 ++ t3, ?_, ?_⟩
    · rw [List.length_append, List.length_append, h1, h2, h4, hdrop, List.map_cons, List.sum_cons, hrow]
      omega
    · refine Ev.succ ?_
      simp only [crc_Bytes.l1]
      refine Ev.yes (by omega) (Ev.yes (by omega) (Ev.yes (by omega) (Ev.bind e1 ?_)))
      refine e2 _ ?_
      rw [w_more m (by omega), show b ++ (t1 ++ t2 ++ t3) = b ++ t1 ++ t2 ++ t3 by simp [List.append_assoc]]
      exact e3
/-- The four numbers of four bytes, then the sign. -/
theorem nums_loop (a0 a1 a2 a3 a4 : Int) (p q r : List Int) (mi : Bool) (res : ByteArray × Int) : ∀ (d i : Nat) (b : List Int), i + d = 4 → b.length + 4 * d ≤ 1000 →
    ∃ t : List Int, t.length = 4 * d ∧ ∀ res, (Ev (fun k => crc_Bytes.j1 k (b ++ t) (if mi = true then 1 else 0) a0 a1 a2 a3 a4 p q r mi) res → Ev (fun k => crc_Bytes.l0 k b [a1, a2, a3, a4] 4 (i : Int) a0 a1 a2 a3 a4 p q r mi) res)
  | 0, i, b, hi, _ => ⟨[], rfl, fun res h => by
    refine Ev.succ ?_
    simp only [crc_Bytes.l0]
    rw [List.append_nil] at h
    refine Ev.no (by omega) ?_
    cases mi with
    | true => exact Ev.yes rfl h
    | false => exact Ev.no (by decide) h⟩
  | d + 1, i, b, hi, hb => by
    obtain ⟨t1, h1, e1⟩ := num_ev b (IntKind.u64.wrap (rd [a1, a2, a3, a4] (i : Int))) 4 (by omega) (by omega)
    obtain ⟨t2, h2, e2⟩ := nums_loop a0 a1 a2 a3 a4 p q r mi res d (i + 1) (b ++ t1) (by omega) (by rw [List.length_append, h1]; omega)
    refine ⟨t1 ++ t2, by rw [List.length_append, h1, h2]; omega, fun res h => ?_⟩
    refine Ev.succ ?_
    simp only [crc_Bytes.l0]
    refine Ev.yes (by omega) (Ev.yes (by omega) (Ev.yes (by show (i : Int) < 4; omega) (Ev.bind e1 ?_)))
    rw [w_more i (by omega)]
    rw [← List.append_assoc] at h
    exact e2 res h
/-- A record's bytes, if it may be. -/
theorem bytes_ev {a0 a1 a2 a3 a4 : Int} {p q r : List Int} {mi : Bool} (hm : crc_may.f a0 a1 a2 a3 a4 p q r mi = some true) (hp : p.length ≤ 4096) (hq : q.length ≤ 4096) (hr : r.length ≤ 4096) :
    ∃ t : List Int, t.length = 34 + 8 * (p.length + q.length + r.length) ∧ Ev (fun k => crc_Bytes.f k a0 a1 a2 a3 a4 p q r mi) (strOfNums (t ++ numT (sumOf t) 4), 0) := by
  obtain ⟨t1, h1, e1⟩ := nums_loop a0 a1 a2 a3 a4 p q r mi (strOfNums [], 0) 4 0 ([84, 65, 76, 89] ++ [a0 % 256]) (by omega) (by simp)
  obtain ⟨t2, h2, e2⟩ := rows_loop [p, q, r] rfl (by intro x hx; simp at hx; rcases hx with rfl | rfl | rfl <;> assumption) 3 0 ([84, 65, 76, 89] ++ [a0 % 256] ++ t1 ++ [if mi = true then 1 else 0]) (by omega) (by simp [h1])
  refine ⟨[84, 65, 76, 89] ++ [a0 % 256] ++ t1 ++ [if mi = true then 1 else 0] ++ t2, ?_, ?_⟩
  · rw [List.length_append, List.length_append, List.length_append, h1, h2]
    simp
    omega
  · unfold crc_Bytes.f
    refine Ev.bind (Ev.const hm) (Ev.yes (by first | rfl | trivial) ?_)
    refine Ev.bind (Ev.const (rfl : some [84, 65, 76, 89] = some ([84, 65, 76, 89] : List Int))) ?_
    refine Ev.yes (by decide) (Ev.bind (Ev.const (rfl : some [a1, a2, a3, a4] = some ([a1, a2, a3, a4] : List Int))) ?_)
    refine e1 _ ?_
    refine Ev.succ ?_
    simp only [crc_Bytes.j1]
    refine Ev.yes (by simp [h1]) (Ev.bind (Ev.const (rfl : some [p, q, r] = some ([p, q, r] : List (List Int)))) ?_)
    exact e2
end Go.Proofs.YtanjahakoadecaaDoor.Pure
