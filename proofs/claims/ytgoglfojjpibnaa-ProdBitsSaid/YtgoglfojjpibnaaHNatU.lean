/- nat.Shr by hand: a number, moved down: the row of the value over a power of 2; new memory alone is written. Conditions: words, not too many. -/
import Derived.Test.YtgoglfojjpibnaaHNatT
namespace Go.Proofs.Ytgoglfojjpibnaa.Hand
open Go.RowKit Go.Proofs.YtgoglfojjpibnaaW.PrintWords Go.Proofs.YtgoglfojjpibnaaW.PrintMore Go.Proofs.Ytgoglfojjpibnaa.Num
set_option linter.unusedVariables false
set_option linter.unusedSimpArgs false
attribute [local go_sem] Oper.semAt_some max2_int min2_int max_two min_two

theorem run_make_len (m : Nat) (hm : m * 8 ≤ 281474976710656) (W : World) :
    (Instr.makeSlice 22 (.int .i64 (m : Int)) (.int .i64 (m : Int))).run Try.prog W = .ok (.slice (some ⟨W.heap.size, 0, none⟩) m m) (W.alloc (.cells (madeCells #[.int .u64 0] m) 38)) := by
  obtain ⟨i, hi, hi2⟩ := Option.map_eq_some_iff.1 info64
  simp only [Prod.mk.injEq] at hi2
  have h := run_make (P := Try.prog) W 22 38 i (.int .u64 0) Try.underlying22 hi hi2.1 .i64 .i64 m m (by omega) (Int.le_refl _) (by rw [hi2.2.2]; omega) (by omega)
  rw [hi2.2.1, Nat.mul_one, Int.toNat_natCast] at h
  exact h

/-- A row of words that a call has made: its block holds the words l. -/
abbrev Row64 (w : World) (B : Nat) (l : List Int) : Prop := w.heap[B]? = some (.cells (nums .u64 l).toArray 38 (0, 0))
theorem Row64.rd {w : World} {B n : Nat} {l : List Int} (h : Row64 w B l) (hl : l.length = n) (hn : n ≤ 17592186044416) : Rd w (some ⟨B, 0, none⟩) n l := by
  subst hl
  have ho : w.ownsRow B 38 1 (.slice (some ⟨B, 0, none⟩) l.length l.length) l.length (nums .u64 l) :=
    ⟨by simp [nums], .inr ⟨B, l.length, _, rfl, Nat.le_refl _, h, Nat.le_refl _, by unfold maxLen; omega, by simp [nums], by rw [Nat.mul_one]; exact List.take_of_length_le (by simp [nums])⟩⟩
  exact own_reads' ho
theorem Row64.set {w : World} {B : Nat} {l : List Int} (h : Row64 w B l) (k : Nat) (y : Int) : Row64 (w.setCell ⟨B, k, none⟩ (.int .u64 y)) B (l.set k y) := by
  unfold Row64
  rw [setCell_eq_setRow w B k _ _ _ _ h, setRow_heap w B _ _ _ _ h]
  simp [nums, List.map_set]
theorem Row64.made {w : World} (m : Nat) : Row64 (w.alloc (.cells (madeCells #[.int .u64 0] m) 38)) w.heap.size (List.replicate m 0) := by
  unfold Row64
  rw [blk_new]
  congr 2
  apply Array.ext'
  refine (List.eq_replicate_iff (a := Value.int .u64 0) (n := m)).2 ⟨by simp [madeCells], ?_⟩ |>.trans (by simp [nums])
  simp [madeCells, Nat.mod_one]
theorem size64 : (Try.prog.info? 38).map (·.size) = some 1 := by kernel_rfl

/-- copy, into a row of the call's own. -/
theorem run_copy64 (W : World) (B off dLen dCap : Nat) (l : List Int) (hrow : Row64 W B l) (ad : Addr) (sLen sCap : Nat) (cs : List Int) (hn : cs.length = Nat.min sLen dLen)
    (hsrc : ∀ j, j < cs.length → W.cell? (ad.add j) = some (.int .u64 (cs.getD j 0))) (hfit : off + cs.length ≤ l.length) :
    ∃ w2, (Builtin.copy_ #[22, 22] 3 #[.slice (some ⟨B, off, none⟩) dLen dCap, .slice (some ad) sLen sCap]).run Try.prog W = .ok (goInt cs.length) w2 ∧
      Row64 w2 B (l.take off ++ cs ++ l.drop (off + cs.length)) ∧ (∀ (n : Nat) (w0 : World), n ≤ B → Below n w0 W → Below n w0 w2) ∧ w2.heap.size = W.heap.size ∧ (∀ j, j ≠ B → w2.heap[j]? = W.heap[j]?) := by
  have h := run_copy_row (P := Try.prog) W 22 22 3 38 B off dLen dCap ad sLen sCap _ 38 (nums .u64 cs) Try.underlying22 size64 hrow (by simpa [nums] using hn)
    (fun j v hj => by
      have hj2 : j < cs.length := by have := (List.getElem?_eq_some_iff.1 hj).1; simpa [nums] using this
      rw [hsrc j hj2]
      simp only [nums, List.getElem?_map, Option.map_eq_some_iff] at hj
      obtain ⟨x, hx, rfl⟩ := hj
      rw [List.getD_eq_getElem?_getD, hx]
      rfl) (by simpa [nums] using hfit) (by simp [nums, Value.oneCell'])
  rw [show (nums .u64 cs).length = cs.length by simp [nums]] at h
  refine ⟨_, h, ?_, fun n w0 hB hb => below_setRow hb hB _, by simp [World.setRow], fun j hj => setRow_other W B j _ hj⟩
  unfold Row64
  rw [setRow_heap W B _ _ _ _ hrow]
  simp [nums]

/-- A row of words, moved down by less than 64 bits. -/
def shw (R : Nat) (x y : Int) : Int := ((x.toNat / 2 ^ R + 2 ^ (64 - R) * (y.toNat % 2 ^ R) : Nat) : Int)
def shl (R : Nat) (l : List Int) : List Int := (List.range l.length).map fun k => shw R (l.getD k 0) (l.getD (k + 1) 0)
/-- The row, some of its words moved down already. -/
def mix (R k : Nat) (l : List Int) : List Int := (shl R l).take k ++ l.drop k
theorem shl_length (R : Nat) (l : List Int) : (shl R l).length = l.length := by simp [shl]
theorem mix_length (R k : Nat) (l : List Int) (hk : k ≤ l.length) : (mix R k l).length = l.length := by simp [mix, shl_length]; omega
theorem mix_getD (R k j : Nat) (l : List Int) (hk : k ≤ j) (hl : k ≤ l.length) : (mix R k l).getD j 0 = l.getD j 0 := by
  rw [List.getD_eq_getElem?_getD, List.getD_eq_getElem?_getD, mix, List.getElem?_append_right (by simp [shl_length]; omega), List.length_take, shl_length, Nat.min_eq_left hl, List.getElem?_drop, show k + (j - k) = j by omega]
theorem mix_succ (R k : Nat) (l : List Int) (hk : k < l.length) : (mix R k l).set k (shw R (l.getD k 0) (l.getD (k + 1) 0)) = mix R (k + 1) l := by
  have h1 : (shl R l)[k]? = some (shw R (l.getD k 0) (l.getD (k + 1) 0)) := by simp [shl, hk]
  have hk2 : k < (shl R l).length := by rw [shl_length]; exact hk
  unfold mix
  rw [List.set_append_right _ _ (by simp [shl_length]; omega), List.length_take, shl_length, Nat.min_eq_left (by omega), Nat.sub_self, List.drop_eq_getElem_cons hk, List.set_cons_zero, List.take_add_one, h1, List.append_assoc]
  rfl

theorem shl_cons (R : Nat) (x : Int) (l : List Int) : shl R (x :: l) = shw R x (l.getD 0 0) :: shl R l := by
  simp [shl, List.range_succ_eq_map, Function.comp_def]
theorem W_split {R : Nat} (hR : R < 64) : W = 2 ^ R * 2 ^ (64 - R) := by rw [← Nat.pow_add, show R + (64 - R) = 64 by omega]; rfl
theorem val_mod_pow {R : Nat} (hR : R < 64) (l : List Int) : val W l % 2 ^ R = (l.getD 0 0).toNat % 2 ^ R := by
  cases l with
  | nil => rfl
  | cons x l => rw [val, W_split hR, Nat.mul_assoc, Nat.add_mul_mod_self_left]; rfl
theorem val_shl {R : Nat} (hR : R < 64) : ∀ l : List Int, val W (shl R l) = val W l / 2 ^ R
  | [] => by simp [shl, val]
  | x :: l => by
    have hp := Nat.two_pow_pos R
    have h1 := Nat.div_add_mod (val W l) (2 ^ R)
    rw [shl_cons, val, val_shl hR l, val]
    rw [show val W l = val W l from rfl, shw, Int.toNat_natCast, ← val_mod_pow hR l]
    have e : W * val W l = 2 ^ R * (2 ^ (64 - R) * val W l) := by rw [W_split hR, Nat.mul_assoc]
    rw [e, Nat.add_mul_div_left _ _ hp, Nat.add_assoc]
    congr 1
    have h2 : 2 ^ (64 - R) * val W l = 2 ^ (64 - R) * (2 ^ R * (val W l / 2 ^ R)) + 2 ^ (64 - R) * (val W l % 2 ^ R) := by rw [← Nat.mul_add, h1]
    rw [h2, W_split hR, Nat.add_comm, ← Nat.mul_assoc, Nat.mul_comm (2 ^ (64 - R)) (2 ^ R)]
theorem shw_wd {R : Nat} (hR : R < 64) {x : Int} (hx : Wd x) (y : Int) : Wd (shw R x y) := by
  obtain ⟨x, rfl⟩ := Int.eq_ofNat_of_zero_le hx.1
  have hx2 := hx.2
  have hW : (18446744073709551616 : Nat) = 2 ^ R * 2 ^ (64 - R) := W_split hR
  have hlt : x / 2 ^ R < 2 ^ (64 - R) := Nat.div_lt_of_lt_mul (by rw [← hW]; omega)
  have hm := Nat.mod_lt y.toNat (Nat.two_pow_pos R)
  have h3 : 2 ^ (64 - R) * (y.toNat % 2 ^ R) + 2 ^ (64 - R) ≤ 18446744073709551616 := by
    rw [hW, Nat.mul_comm (2 ^ R), ← Nat.mul_succ]
    exact Nat.mul_le_mul_left _ hm
  unfold Wd shw
  rw [Int.toNat_natCast]
  generalize x / 2 ^ R = u at *
  generalize 2 ^ (64 - R) * (y.toNat % 2 ^ R) = v at *
  omega
theorem shl_inB {R : Nat} (hR : R < 64) {l : List Int} (hl : InB W l) : InB W (shl R l) := fun z hz => by
  obtain ⟨k, _, rfl⟩ := List.mem_map.1 hz
  exact shw_wd hR (inB_getD W_pos hl k) _
theorem mix_all (R : Nat) (l : List Int) (k : Nat) (hk : l.length = k) : mix R k l = shl R l := by
  subst hk
  rw [mix, List.drop_length, List.append_nil]
  exact List.take_of_length_le (by rw [shl_length]; exact Nat.le_refl _)
theorem shr_val {a : List Int} (ha : InB W a) {N Q R : Nat} (hN : N = 64 * Q + R) (hR : R < 64) (hQ : Q ≤ a.length) : val W (shl R (a.drop Q)) = val W a / 2 ^ N := by
  rw [val_shl hR, val_drop_div W_pos ha Q hQ, W_pow, Nat.div_div_eq_div_mul, ← Nat.pow_add, hN]
theorem sh_or (R : Nat) (hR : R < 64) {x y : Int} (hx : Wd x) (hy : Wd y) :
    bits BinOp.or IntKind.u64 (x / 2 ^ R) (IntKind.u64.wrap (IntKind.u64.wrap (y * 2) * 2 ^ (63 - R))) = shw R x y := by
  obtain ⟨x, rfl⟩ := Int.eq_ofNat_of_zero_le hx.1
  obtain ⟨y, rfl⟩ := Int.eq_ofNat_of_zero_le hy.1
  have hx2 := hx.2
  have hW : (18446744073709551616 : Nat) = 2 ^ R * 2 ^ (64 - R) := by rw [← Nat.pow_add, show R + (64 - R) = 64 by omega]
  have hlt : x / 2 ^ R < 2 ^ (64 - R) := Nat.div_lt_of_lt_mul (by rw [← hW]; omega)
  have e1 : ((x : Int) / 2 ^ R) = ((x / 2 ^ R : Nat) : Int) := by simp
  have e2 : ((y : Int) * 2 % 18446744073709551616 * 2 ^ (63 - R)) % 18446744073709551616 = ((y * 2 % 18446744073709551616 * 2 ^ (63 - R) % 18446744073709551616 : Nat) : Int) := by
    have : ((2 : Int) ^ (63 - R)) = ((2 ^ (63 - R) : Nat) : Int) := by simp
    rw [this]
    rfl
  have e3 : y * 2 % 18446744073709551616 * 2 ^ (63 - R) % 18446744073709551616 = 2 ^ (64 - R) * (y % 2 ^ R) := by
    rw [Nat.mod_mul_mod, Nat.mul_assoc, show 2 * 2 ^ (63 - R) = 2 ^ (64 - R) by rw [Nat.mul_comm, ← Nat.pow_succ, Nat.succ_eq_add_one, show 63 - R + 1 = 64 - R by omega], hW, Nat.mul_mod_mul_right, Nat.mul_comm]
  have hb : 2 ^ (64 - R) * (y % 2 ^ R) < 18446744073709551616 := by
    rw [hW, Nat.mul_comm]
    exact Nat.mul_lt_mul_of_pos_right (Nat.mod_lt _ (Nat.two_pow_pos R)) (Nat.two_pow_pos _)
  have hp : 2 ^ (64 - R) ≤ 18446744073709551616 := by
    rw [hW]
    exact Nat.le_mul_of_pos_left _ (Nat.two_pow_pos R)
  rw [IntKind.wrap_u64, IntKind.wrap_u64, e1, e2, e3, bits_or_u64_nat _ _ (by omega) hb, Nat.or_comm, ← Nat.two_pow_add_eq_or_of_lt hlt, Nat.add_comm]
  rfl
theorem nums_at (l : List Int) (k : Nat) (hk : k < l.length) : (nums .u64 l).toArray[k]? = some (.int .u64 (l.getD k 0)) := by
  rw [List.getD_eq_getElem?_getD]
  simp [nums, hk]

def NLIM : Int := 1099511627776
def nat_Shr.f (l0 : List Int) (a1 : Int) : Option (List Int) := if inb l0 = true ∧ l0.length ≤ LIM ∧ a1 ≤ NLIM then some (dig W (val W l0 / 2 ^ a1.toNat)) else none
end Go.Proofs.Ytgoglfojjpibnaa.Hand
