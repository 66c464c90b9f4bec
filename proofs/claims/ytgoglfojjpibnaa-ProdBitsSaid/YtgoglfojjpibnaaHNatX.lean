/- nat.Shl by hand: a number, moved up: the row of the value times a power of 2; new memory alone is written. Conditions: words, not too many. -/
import Derived.Test.YtgoglfojjpibnaaHNatV
namespace Go.Proofs.Ytgoglfojjpibnaa.Hand
open Go.RowKit Go.Proofs.YtgoglfojjpibnaaW.PrintWords Go.Proofs.YtgoglfojjpibnaaW.PrintMore Go.Proofs.Ytgoglfojjpibnaa.Num
set_option linter.unusedVariables false
set_option linter.unusedSimpArgs false
attribute [local go_sem] Oper.semAt_some max2_int min2_int max_two min_two

/-- How the call's own memory stands: the count (block B), the row (B + 1), the variable out, the variable keep. -/
structure ShlSt (B L N : Nat) (row : List Int) (kp : Int) (W : World) : Prop where
  bn : Boxed W B 3 (.int .i64 (N : Int))
  rw : Row64 W (B + 1) row
  bo : Boxed W (B + 1 + 1) 22 (.slice (some ⟨B + 1, 0, none⟩) L L)
  bk : Boxed W (B + 1 + 1 + 1) 38 (.int .u64 kp)
def shLo (R : Nat) (x kp : Int) : Int := ((x.toNat * 2 ^ R % 18446744073709551616 + kp.toNat : Nat) : Int)
def shHi (R : Nat) (x : Int) : Int := ((x.toNat / 2 ^ (64 - R) : Nat) : Int)
theorem ShlSt.step {B L N R i : Nat} {row : List Int} {kp x : Int} {W : World} (h : ShlSt B L N row kp W) :
    ShlSt B L N (row.set i (shLo R x kp)) (shHi R x) ((W.setCell ⟨B + 1, i, none⟩ (.int .u64 (shLo R x kp))).setCell ⟨B + 1 + 1 + 1, 0, none⟩ (.int .u64 (shHi R x))) := by
  have e : ∀ (W' : World) (b j : Nat) (o : Nat) (v : Value), j ≠ b → (W'.setCell ⟨b, o, none⟩ v).heap[j]? = W'.heap[j]? := fun W' b j o v hj => Below.heap_setCell _ _ _ _ (by simpa using hj)
  have bk1 : Boxed (W.setCell ⟨B + 1, i, none⟩ (.int .u64 (shLo R x kp))) (B + 1 + 1 + 1) 38 (.int .u64 kp) := (e _ _ _ _ _ (by omega)).trans h.bk
  refine ⟨?_, ?_, ?_, bk1.set _⟩
  · exact ((e _ _ _ _ _ (by omega)).trans (e _ _ _ _ _ (by omega))).trans h.bn
  · exact (e _ _ _ _ _ (by omega)).trans (h.rw.set i _)
  · exact ((e _ _ _ _ _ (by omega)).trans (e _ _ _ _ _ (by omega))).trans h.bo
theorem shl_keep (R : Nat) (hR : R < 64) {x : Int} (hx : Wd x) : x / 2 / 2 ^ (63 - R) = shHi R x := by
  obtain ⟨x, rfl⟩ := Int.eq_ofNat_of_zero_le hx.1
  have e : ((2 : Int) ^ (63 - R)) = ((2 ^ (63 - R) : Nat) : Int) := by simp
  have e2 : 2 ^ (64 - R) = 2 * 2 ^ (63 - R) := by rw [Nat.mul_comm, ← Nat.pow_succ, Nat.succ_eq_add_one, show 63 - R + 1 = 64 - R by omega]
  rw [e, shHi, Int.toNat_natCast, e2, ← Nat.div_div_eq_div_mul]
  rfl
theorem shl_or (R : Nat) (hR : R < 64) {x kp : Int} (hx : Wd x) (hk : 0 ≤ kp ∧ kp.toNat < 2 ^ R) : bits BinOp.or IntKind.u64 (IntKind.u64.wrap (x * 2 ^ R)) kp = shLo R x kp := by
  obtain ⟨x, rfl⟩ := Int.eq_ofNat_of_zero_le hx.1
  obtain ⟨kp, rfl⟩ := Int.eq_ofNat_of_zero_le hk.1
  have hk2 := hk.2
  rw [Int.toNat_natCast] at hk2
  have e : ((2 : Int) ^ R) = ((2 ^ R : Nat) : Int) := by simp
  have e1 : ((x : Int) * ((2 ^ R : Nat) : Int)) % 18446744073709551616 = ((x * 2 ^ R % 18446744073709551616 : Nat) : Int) := rfl
  have hW : (18446744073709551616 : Nat) = 2 ^ (64 - R) * 2 ^ R := by rw [← Nat.pow_add, show 64 - R + R = 64 by omega]
  have e3 : x * 2 ^ R % 18446744073709551616 = 2 ^ R * (x % 2 ^ (64 - R)) := by rw [hW, Nat.mul_mod_mul_right, Nat.mul_comm]
  have hp : 2 ^ R ≤ 18446744073709551616 := by rw [hW]; exact Nat.le_mul_of_pos_left _ (Nat.two_pow_pos _)
  rw [IntKind.wrap_u64, e, e1, bits_or_u64_nat _ _ (Nat.mod_lt _ (by decide)) (by omega), e3, ← Nat.two_pow_add_eq_or_of_lt hk2, shLo, Int.toNat_natCast, Int.toNat_natCast, e3]

set_option maxRecDepth 100000 in
set_option maxHeartbeats 2000000 in
theorem shl1 (B L N Q R i : Nat) (row : List Int) (kp x : Int) (w : World) (h : ShlSt B L N row kp w) (hN : N = 64 * Q + R) (hRb : R < 64) (hl : row.length = L) (hi : i < L)
    (hxe : row.getD i 0 = x) (hx : Wd x) (hk : 0 ≤ kp ∧ kp.toNat < 2 ^ R) :
    Calls Try.prog 50 #[.int .i64 (i : Int), .pointer (some ⟨B + 1 + 1, 0, none⟩), .pointer (some ⟨B, 0, none⟩), .pointer (some ⟨B + 1 + 1 + 1, 0, none⟩)] w fun e w' =>
      e = .returned (.tuple #[]) ∧ ShlSt B L N (row.set i (shLo R x kp)) (shHi R x) w' ∧ Below B w w' := by
  have hm : (N : Int) % 64 = (R : Int) := by omega
  have hmt : (N : Int).tmod 64 = (R : Int) := by rw [Int.tmod_eq_emod_of_nonneg (by omega)]; exact hm
  have h63 : IntKind.i64.wrap (63 - (R : Int)) = ((63 - R : Nat) : Int) := by rw [IntKind.wrap_i64]; omega
  have qn : w.drew.cell? ⟨B, 0, none⟩ = _ := h.bn.cell
  have qo : w.drew.cell? ⟨B + 1 + 1, 0, none⟩ = _ := h.bo.cell
  have qk : w.drew.cell? ⟨B + 1 + 1 + 1, 0, none⟩ = _ := h.bk.cell
  have fk : w.drew.frozen? ⟨B + 1 + 1 + 1, 0, none⟩ = false := h.bk.frozen
  have qr0 := (blk_cell h.rw i).trans (nums_at row i (by omega))
  rw [hxe] at qr0
  have qr : w.drew.cell? ⟨B + 1, i, none⟩ = _ := qr0
  have fr : w.drew.frozen? ⟨B + 1, i, none⟩ = false := blk_frozen h.rw i
  have hor := shl_or R hRb hx hk
  have hkp := shl_keep R hRb hx
  have qo1 : w.cell? ⟨B + 1 + 1, 0, none⟩ = _ := h.bo.cell
  have qn1 : w.cell? ⟨B, 0, none⟩ = _ := h.bn.cell
  have qk1 : w.cell? ⟨B + 1 + 1 + 1, 0, none⟩ = _ := h.bk.cell
  have fk1 : w.frozen? ⟨B + 1 + 1 + 1, 0, none⟩ = false := h.bk.frozen
  have H := Aside0.mk h
  clear h hxe hN
  go_enter Try.func50, Try.ntmps50
  go_wp2
  go_region
  all_goals
    go_wp2
    go_end0
    have hst := H.out.step (R := R) (i := i) (x := x)
    exact ⟨rfl, ⟨hst.bn, hst.rw, hst.bo, hst.bk⟩, (((Below.refl B w).setCell (p := ⟨B + 1, i, none⟩) (by simp) _).setCell (p := ⟨B + 1 + 1 + 1, 0, none⟩) (by simp; omega) _).drew⟩

/-- What has been made of a number's first words: the words of the product with 2^R, and what is kept. -/
structure ShlInv (R : Nat) (pre out : List Int) (kp : Int) : Prop where
  len : out.length = pre.length
  inb : InB W out
  k0 : 0 ≤ kp ∧ kp.toNat < 2 ^ R
  val : val W out + W ^ pre.length * kp.toNat = val W pre * 2 ^ R
theorem ShlInv.nil (R : Nat) : ShlInv R [] [] 0 := ⟨rfl, inB_nil _, ⟨Int.le_refl _, Nat.two_pow_pos R⟩, by simp [Num.val]⟩
theorem ShlInv.snoc {R : Nat} (hR : R < 64) {pre out : List Int} {kp x : Int} (h : ShlInv R pre out kp) (hx : Wd x) : ShlInv R (pre ++ [x]) (out ++ [shLo R x kp]) (shHi R x) := by
  have hv := h.val
  have hl := h.len
  have hi := h.inb
  obtain ⟨k0, k1⟩ := h.k0
  clear h
  obtain ⟨x, rfl⟩ := Int.eq_ofNat_of_zero_le hx.1
  obtain ⟨kp, rfl⟩ := Int.eq_ofNat_of_zero_le k0
  have hx2 := hx.2
  rw [Int.toNat_natCast] at k1 hv
  have hW : (18446744073709551616 : Nat) = 2 ^ (64 - R) * 2 ^ R := by rw [← Nat.pow_add, show 64 - R + R = 64 by omega]
  have e3 : x * 2 ^ R % 18446744073709551616 = 2 ^ R * (x % 2 ^ (64 - R)) := by rw [hW, Nat.mul_mod_mul_right, Nat.mul_comm]
  have hm := Nat.mod_lt x (Nat.two_pow_pos (64 - R))
  have e4 : 2 ^ R * (x % 2 ^ (64 - R)) + 2 ^ R ≤ 18446744073709551616 := by
    rw [hW, Nat.mul_comm (2 ^ (64 - R)), ← Nat.mul_succ]
    exact Nat.mul_le_mul_left _ hm
  have e5 : x / 2 ^ (64 - R) < 2 ^ R := Nat.div_lt_of_lt_mul (by rw [← hW]; omega)
  have e6 : shLo R (x : Int) (kp : Int) = ((2 ^ R * (x % 2 ^ (64 - R)) + kp : Nat) : Int) := by rw [shLo, Int.toNat_natCast, Int.toNat_natCast, e3]
  have e7 : shHi R (x : Int) = ((x / 2 ^ (64 - R) : Nat) : Int) := by rw [shHi, Int.toNat_natCast]
  have e8 : 2 ^ R * (x % 2 ^ (64 - R)) + W * (x / 2 ^ (64 - R)) = x * 2 ^ R := by
    have h1 := Nat.mod_add_div x (2 ^ (64 - R))
    have h2 : W = 2 ^ R * 2 ^ (64 - R) := by rw [Nat.mul_comm]; exact hW
    rw [h2, Nat.mul_assoc, ← Nat.mul_add, h1, Nat.mul_comm]
  rw [e6, e7]
  refine ⟨by simp [hl], inB_append.2 ⟨hi, inB_cons.2 ⟨⟨by omega, by have := W_eq; omega⟩, inB_nil _⟩⟩, ⟨Int.natCast_nonneg _, by rw [Int.toNat_natCast]; exact e5⟩, ?_⟩
  rw [val_snoc, val_snoc, hl, List.length_append, List.length_singleton, Nat.pow_succ, Int.toNat_natCast, Int.toNat_natCast, Int.toNat_natCast, Nat.add_mul, ← hv, Nat.mul_assoc (W ^ pre.length) x, ← e8]
  generalize 2 ^ R * (x % 2 ^ (64 - R)) = p
  generalize x / 2 ^ (64 - R) = q
  rw [Nat.mul_add, Nat.mul_add, Nat.mul_assoc]
  omega
theorem shl_row_at (Q k : Nat) (out D : List Int) (hl : out.length = k) : (List.replicate Q 0 ++ out ++ D.drop k).getD (Q + k) 0 = D.getD k 0 := by
  rw [List.getD_eq_getElem?_getD, List.getElem?_append_right (by simp [hl]), List.getD_eq_getElem?_getD]
  simp [hl]
theorem shl_row_set (Q k : Nat) (out D : List Int) (v : Int) (hl : out.length = k) (hk : k < D.length) : (List.replicate Q 0 ++ out ++ D.drop k).set (Q + k) v = List.replicate Q 0 ++ (out ++ [v]) ++ D.drop (k + 1) := by
  have e : (D.drop k).set 0 v = v :: D.drop (k + 1) := by rw [List.drop_eq_getElem_cons hk]; rfl
  rw [List.set_append_right _ _ (by simp [hl])]
  simp [hl, e]
theorem shl_row_len (Q k : Nat) (out D : List Int) (hl : out.length = k) (hk : k ≤ D.length) : (List.replicate Q (0 : Int) ++ out ++ D.drop k).length = Q + D.length := by
  simp [hl]; omega
theorem ShlInv.done {R Q N m v : Nat} {D out : List Int} {kp : Int} (h : ShlInv R D out kp) (hD : D.length = m + 1) (hv : Num.val W D = v) (hlt : v < W ^ m) (hR : R < 64) (hN : N = 64 * Q + R) :
    InB W (List.replicate Q 0 ++ out) ∧ Num.val W (List.replicate Q 0 ++ out) = v * 2 ^ N := by
  have hval := h.val
  rw [hv, hD] at hval
  have hkp : kp.toNat = 0 := by
    rcases Nat.eq_zero_or_pos kp.toNat with h0 | h0
    · exact h0
    · have h1 : v * 2 ^ R < W ^ (m + 1) := by
        have h2 : 2 ^ R ≤ W := Nat.pow_le_pow_right (by decide) (Nat.le_of_lt hR)
        rw [Nat.pow_succ]
        exact Nat.lt_of_lt_of_le (Nat.mul_lt_mul_of_pos_right hlt (Nat.two_pow_pos R)) (Nat.mul_le_mul_left _ h2)
      have h3 := Nat.mul_le_mul_left (W ^ (m + 1)) h0
      rw [Nat.succ_eq_add_one, Nat.zero_add, Nat.mul_one] at h3
      omega
  rw [hkp, Nat.mul_zero, Nat.add_zero] at hval
  refine ⟨inB_append.2 ⟨inB_replicate W_pos Q, h.inb⟩, ?_⟩
  rw [val_append, val_replicate, List.length_replicate, hval, W_pow, hN, Nat.pow_add, Nat.zero_add, ← Nat.mul_assoc, Nat.mul_comm (2 ^ (64 * Q)) v, Nat.mul_assoc]

set_option maxRecDepth 100000 in
set_option maxHeartbeats 2000000 in
theorem nat_shl (A : Option Addr) (la ca : Nat) (a : List Int) (n : Int) (w : World) (hr : Rd w A la a) (hla : la ≤ ca) (hia : InB Num.W a) (hna : la ≤ 1099511627776) (hn : n ≤ 1099511627776) :
    Calls Try.prog 45 #[.slice A la ca, .int .i64 n] w (NewPost (dig Num.W (val Num.W a * 2 ^ n.toNat)) w) := by
  obtain ⟨N, hN⟩ : ∃ N : Nat, N = n.toNat := ⟨_, rfl⟩
  have hmx : (if n < 0 then 0 else n) = (N : Int) := by split <;> omega
  rw [← hN]
  obtain ⟨Q, hQ⟩ : ∃ Q : Nat, Q = N / 64 := ⟨_, rfl⟩
  obtain ⟨R, hR⟩ : ∃ R : Nat, R = N % 64 := ⟨_, rfl⟩
  have hd : (N : Int) / 64 = (Q : Int) := by omega
  have hm : (N : Int) % 64 = (R : Int) := by omega
  have hdt : (N : Int).tdiv 64 = (Q : Int) := by rw [Int.tdiv_eq_ediv_of_nonneg (by omega)]; exact hd
  have hmt : (N : Int).tmod 64 = (R : Int) := by rw [Int.tmod_eq_emod_of_nonneg (by omega)]; exact hm
  have hQb : Q ≤ 1099511627776 := by omega
  have hRb : R < 64 := by omega
  have HN := Aside0.mk (show N = 64 * Q + R by omega)
  have HA := Aside0.mk hr
  have hrd := hr.allocS (.cells #[.int .i64 (N : Int)] 3)
  have hnc := nat_norm_at A la ca a _ hrd hla hia
  obtain ⟨hf1, hf2⟩ := norm_facts hia
  obtain ⟨m, hml⟩ : ∃ m, m = (dig Num.W (val Num.W a)).length := ⟨_, rfl⟩
  rw [← hml] at hnc hf1 hf2
  have hal : a.length = la := hr.1
  rw [hal] at hf1
  rcases Nat.eq_zero_or_pos m with h0 | h0
  · subst h0
    have hv0 : val Num.W a = 0 := (dig_eq_nil Num.W_gt).1 (List.eq_nil_of_length_eq_zero hml.symm)
    rw [hv0, Nat.zero_mul, dig_zero]
    have HNC := Aside0.mk hnc
    clear hr hN hn hQ hR hrd hnc hf1 hf2 hml hv0 hal
    go_enter Try.func45, Try.ntmps45
    go_wp2_with ((go_at_call 33); (refine HNC.out.mono ?_); (rintro e w' ⟨rfl, rfl⟩))
    refine bodyPost_ret (results_tmp rfl _ _ _) rfl ?_
    exact ⟨_, rfl, Vw.nil _ _ _, below_alloc (Below.refl _ _) _⟩
  · have HNC := Aside0.mk hnc
    have hmk : ∀ W : World, (Instr.makeSlice 22 (.int .i64 ((m : Int) + (Q : Int) + 1)) (.int .i64 ((m : Int) + (Q : Int) + 1))).run Try.prog W = .ok (.slice (some ⟨W.heap.size, 0, none⟩) (m + Q + 1) (m + Q + 1)) (W.alloc (.cells (madeCells #[.int .u64 0] (m + Q + 1)) 38)) := fun W => run_make_len (m + Q + 1) (by omega) W
    obtain ⟨ad, rfl, hcell⟩ := HA.out.2.2 (by omega)
    have hb0 : Below w.heap.size w (((w.alloc (.cells #[.int .i64 (N : Int)] 3)).alloc (.cells (madeCells #[.int .u64 0] (m + Q + 1)) 38)).alloc (.cells #[.slice (some ⟨w.heap.size + 1, 0, none⟩) (m + Q + 1) (m + Q + 1)] 22)) := below_alloc (below_alloc (below_alloc (Below.refl _ _) _) _) _
    have hrow0 : Row64 (((w.alloc (.cells #[.int .i64 (N : Int)] 3)).alloc (.cells (madeCells #[.int .u64 0] (m + Q + 1)) 38)).alloc (.cells #[.slice (some ⟨w.heap.size + 1, 0, none⟩) (m + Q + 1) (m + Q + 1)] 22)) (w.heap.size + 1) (List.replicate (m + Q + 1) 0) := by
      have h := Row64.made (w := w.alloc (.cells #[.int .i64 (N : Int)] 3)) (m + Q + 1)
      rw [World.size_alloc] at h
      exact blk_alloc h _
    have hdl : (a.take m).length = m := by simp [hal, hf1]
    obtain ⟨w2, hcp, hrow, hbel, hsz, hoth⟩ := run_copy64 _ (w.heap.size + 1) Q (m + Q + 1 - Q) (m + Q + 1 - Q) _ hrow0 ad m m (a.take m) (by rw [hdl]; exact (Nat.min_eq_left (by omega)).symm) (fun j hj => by
      have hr := (HA.out.toB.keep hb0).1
      obtain ⟨ad', e, hc⟩ := hr.2.2 (by omega)
      cases e
      rw [hc j (by omega)]
      rw [List.getD_eq_getElem?_getD, List.getD_eq_getElem?_getD, List.getElem?_take, if_pos (by omega)]) (by rw [hdl]; simp; omega)
    rw [hdl] at hcp
    simp only [World.size_alloc] at hsz
    obtain ⟨d, hdd⟩ : ∃ d, d = dig Num.W (val Num.W a) := ⟨_, rfl⟩
    have hdi : InB Num.W d := by rw [hdd]; exact dig_inB Num.W_gt _
    have hdv : val Num.W d = val Num.W a := by rw [hdd]; exact val_dig Num.W_gt _
    rw [← hdd] at hml hf2
    have hdlt : val Num.W a < Num.W ^ m := by rw [← hdv, hml]; exact val_lt Num.W_pos hdi
    have hDl : (d ++ [0]).length = m + 1 := by simp [hml]
    have hDv : val Num.W (d ++ [0]) = val Num.W a := by rw [val_snoc, hdv]; simp
    have hDi : InB Num.W (d ++ [0]) := inB_append.2 ⟨hdi, inB_replicate Num.W_pos 1⟩
    have er : List.take Q (List.replicate (m + Q + 1) (0 : Int)) ++ a.take m ++ List.drop (Q + m) (List.replicate (m + Q + 1) 0) = List.replicate Q 0 ++ [] ++ (d ++ [0]).drop 0 := by
      rw [List.take_replicate, List.drop_replicate, hf2, show m + Q + 1 - (Q + m) = 1 by omega, Nat.min_eq_left (by omega)]
      simp
    rw [hdl, er] at hrow
    generalize hDD : d ++ [0] = D at *
    have hst : ShlSt w.heap.size (m + Q + 1) N (List.replicate Q 0 ++ [] ++ D.drop 0) 0 (w2.alloc (.cells #[.int .u64 0] 38)) := by
      have b1 := Boxed.new w2 38 (.int .u64 0)
      rw [hsz] at b1
      refine ⟨?_, blk_alloc hrow _, ?_, b1⟩
      · refine Boxed.alloc ?_ _
        refine (hoth w.heap.size (by omega)).trans ?_
        exact blk_alloc (blk_alloc (blk_new w _) _) _
      · refine Boxed.alloc ?_ _
        refine (hoth (w.heap.size + 1 + 1) (by omega)).trans ?_
        have := blk_new ((w.alloc (.cells #[.int .i64 (N : Int)] 3)).alloc (.cells (madeCells #[.int .u64 0] (m + Q + 1)) 38)) (.cells #[.slice (some ⟨w.heap.size + 1, 0, none⟩) (m + Q + 1) (m + Q + 1)] 22)
        rw [World.size_alloc, World.size_alloc] at this
        exact this
    have qn : w2.cell? ⟨w.heap.size, 0, none⟩ = some (.int .i64 (N : Int)) := blk_cell ((hoth w.heap.size (by omega)).trans (blk_alloc (blk_alloc (blk_new w _) _) _)) 0
    have hm0 : ((m : Int) == 0) = false := by rw [beq_eq_false_iff_ne]; omega
    have HST := Aside0.mk hst
    have HB2 := Aside0.mk (hbel w.heap.size w (by omega) hb0)
    have HDI := Aside0.mk hDi
    have HDL := Aside0.mk hDl
    have HDV := Aside0.mk hDv
    have HDLT := Aside0.mk hdlt
    clear hr hN hn hQ hR hrd hnc hf2 hml hal hrow hoth hbel hb0 hrow0 hdl hcell hst hDi hDl hDv hdlt hdd hdi hdv er hDD
    go_enter Try.func45, Try.ntmps45
    go_wp2_with ((go_at_call 33); (refine HNC.out.mono ?_); (rintro e w' ⟨rfl, rfl⟩))
    clear hcp hmk qn
    go_loopw [8] (fun i wr => ∃ (k : Nat) (out : List Int) (kp : Int), k ≤ m + 1 ∧ i = .int .i64 ((Q : Int) + (k : Int)) ∧ Aside0 (ShlInv R (D.take k) out kp) ∧ Aside0 (ShlSt w.heap.size (m + Q + 1) N (List.replicate Q 0 ++ out ++ D.drop k) kp wr) ∧ Aside0 (Below w.heap.size w wr)) (fun i _ => Q + m + 1 - (intOf i).toNat)
    case atStart => exact ⟨0, [], 0, by omega, by go_num, ⟨ShlInv.nil R⟩, HST, ⟨below_alloc HB2.out _⟩⟩
    case round =>
      obtain ⟨k, out, kp, hk, rfl, HI, HS, HB⟩ := hrel
      by_cases hlt : k < m + 1
      · have qo := HS.out.bo.cell
        have hlen : out.length = k := by rw [HI.out.len, List.length_take, HDL.out]; omega
        have hkD : k < D.length := by rw [HDL.out]; exact hlt
        have hxw : Wd (D.getD k 0) := inB_getD Num.W_pos HDI.out k
        have hsh := shl1 w.heap.size (m + Q + 1) N Q R (Q + k) _ kp (D.getD k 0) wr HS.out HN.out hRb (by rw [shl_row_len Q k out D hlen (by omega), HDL.out]; omega) (by omega) (shl_row_at Q k out D hlen) hxw HI.out.k0
        rw [shl_row_set Q k out D _ hlen hkD] at hsh
        have HX := Aside0.mk ((HI.out).snoc hRb hxw)
        have HT := Aside0.mk (take_snoc D k hkD)
        have HSH := Aside0.mk hsh
        clear hsh hxw hlen hkD
        go_wp2_with ((go_at_call 50); (refine HSH.out.mono ?_); (rintro e w4 ⟨rfl, hst4, hbel4⟩); (have HST4 := Aside0.mk hst4); (have HB4 := Aside0.mk hbel4); (clear hst4 hbel4))
        refine ⟨⟨k + 1, _, _, by omega, by go_num, ⟨by rw [HT.out]; exact HX.out⟩, HST4, ⟨HB.out.trans HB4.out⟩⟩, by simp [intOf]; omega⟩
      · obtain rfl : k = m + 1 := by omega
        have qo := HS.out.bo.cell
        have hI := HI.out
        have hS := HS.out.rw
        rw [List.take_of_length_le (by rw [HDL.out]; exact Nat.le_refl _)] at hI
        have hdn := hI.done (Q := Q) HDL.out HDV.out HDLT.out hRb HN.out
        rw [List.drop_of_length_le (by rw [HDL.out]; exact Nat.le_refl _), List.append_nil] at hS
        have hrd := hS.rd (n := m + Q + 1) (by simp [hI.len, HDL.out]; omega) (by omega)
        have HRD := Aside0.mk hrd
        have HDN := Aside0.mk hdn
        clear hI hS hdn hrd
        go_wp2_with ((go_at_call 33); (refine (nat_norm' _ (m + Q + 1) (m + Q + 1) _ _ HRD.out (Nat.le_refl _) HDN.out.1).mono ?_); (rintro e w' ⟨j, hk1, hk2, rfl, rfl⟩))
        refine bodyPost_ret (results_tmp rfl _ _ _) rfl ?_
        rw [HDN.out.2] at hk2
        refine ⟨_, rfl, Vw.of_Rd (n := j) ?_ (Nat.le_refl _) (fun ad e _ => by cases e; exact Nat.le_succ _), HB.out⟩
        rw [← hk2]
        exact HRD.out.take j (by have := HRD.out.1; omega)

def SLIM : Nat := 1099511627776
def nat_Shl.f (l0 : List Int) (a1 : Int) : Option (List Int) := if inb l0 = true ∧ l0.length ≤ SLIM ∧ a1 ≤ NLIM then some (dig W (val W l0 * 2 ^ a1.toNat)) else none
theorem nat_Shl.calls (A0 : Option Addr) (c0 : Nat) (l0 : List Int) (a1 : Int) (r : List Int) (w : World)
    (hr0 : Kd.C (Kd.int .u64) w A0 l0.length l0) (hc0 : l0.length ≤ c0) (h : nat_Shl.f l0 a1 = some r) :
    Calls Try.prog 45 #[.slice A0 l0.length c0, .int .i64 a1] w fun e w' => ∃ v0_ : Value, e = .returned (v0_) ∧ Kd.V (Kd.int .u64) 38 w' w.heap.size (fun k_ => (w.heap.size ≤ k_)) v0_ r ∧ Below w.heap.size w w' := by
  unfold nat_Shl.f at h
  split at h
  · rename_i hi
    cases h
    exact calls_of_new (nat_shl A0 _ c0 l0 a1 w (Rd.of_C hr0) hc0 (inb_iff.1 hi.1) hi.2.1 hi.2.2)
  · cases h
theorem readsRow_len {α : Type} {R : α → List Value → Prop} {size : Nat} {w : World} {A : Option Addr} {n m : Nat} {ps : List α} (h : n = m) (hr : ReadsRow R size w A n ps) : ReadsRow R size w A m ps := h ▸ hr
end Go.Proofs.Ytgoglfojjpibnaa.Hand
