/- nat.Low by hand: a number's lowest bits: the row of the value's rest. Conditions: words, not too many. -/
import Derived.Test.YtmanafcncccidaaHNatU
namespace Go.Proofs.Ytmanafcncccidaa.Hand
open Go.RowKit Go.Proofs.YtmanafcncccidaaW.PrintWords Go.Proofs.YtmanafcncccidaaW.PrintMore Go.Proofs.Ytmanafcncccidaa.Num
set_option linter.unusedVariables false
set_option linter.unusedSimpArgs false
attribute [local go_sem] Oper.semAt_some max2_int min2_int max_two min_two

/-- What a call that hands back its argument's words, or new ones, leaves. -/
def SharePost (P0_ : Nat → Prop) (r : List Int) (w : World) (e : Ending) (w' : World) : Prop := ∃ v : Value, e = .returned v ∧ Vw w' w.heap.size (fun k => P0_ k ∨ w.heap.size ≤ k) v r ∧ Below w.heap.size w w'
theorem Rd.drew {w : World} {A : Option Addr} {n : Nat} {l : List Int} (h : Rd w A n l) : Rd w.drew A n l := h
theorem low_val {a : List Int} (ha : InB W a) {N Q R : Nat} (hN : N = 64 * Q + R) (hR : R < 64) (hQ : Q < a.length) : val W (a.take Q ++ [((((a.getD Q 0).toNat % 2 ^ R : Nat)) : Int)]) = val W a % 2 ^ N := by
  have hl : (a.take Q).length = Q := by simp; omega
  rw [val_snoc, hl, Int.toNat_natCast, hN, Nat.pow_add, ← W_pow, Nat.mod_mul, val_take_mod W_pos ha Q (by omega), ← val_drop_div W_pos ha Q (by omega), val_mod_pow hR, List.getD_eq_getElem?_getD, List.getD_eq_getElem?_getD, List.getElem?_drop, Nat.add_zero]
theorem mask_at (x R : Nat) (hx : x < 18446744073709551616) (hR : R < 64) : bits BinOp.and IntKind.u64 (x : Int) (((2 ^ R - 1 : Nat)) : Int) = ((x % 2 ^ R : Nat) : Int) := by
  have h1 : 2 ^ R ≤ 2 ^ 63 := Nat.pow_le_pow_right (by decide) (by omega)
  rw [bits_and_u64_nat x _ hx (by omega), Nat.and_two_pow_sub_one_eq_mod]

theorem mask_wr (R : Nat) (hR : R < 64) : IntKind.u64.wrap (IntKind.u64.wrap (2 ^ R) - 1) = ((2 ^ R - 1 : Nat) : Int) := by
  have h1 : 2 ^ R ≤ 2 ^ 63 := Nat.pow_le_pow_right (by decide) (by omega)
  have h2 := Nat.two_pow_pos R
  have e : ((2 : Int) ^ R) = ((2 ^ R : Nat) : Int) := by simp
  rw [IntKind.wrap_u64, IntKind.wrap_u64, e]
  generalize 2 ^ R = p at *
  omega

set_option maxRecDepth 100000 in
set_option maxHeartbeats 2000000 in
theorem nat_low (P0_ : Nat → Prop) (A : Option Addr) (la ca : Nat) (a : List Int) (n : Int) (w : World) (hs : Vw w w.heap.size (fun k => P0_ k) (.slice A la ca) a) (hia : InB Num.W a) (hna : la ≤ 17592186044400) (hn : n ≤ 1099511627776) :
    Calls Try.prog 21 #[.slice A la ca, .int .i64 n] w (SharePost P0_ (dig Num.W (val Num.W a % 2 ^ n.toNat)) w) := by
  obtain ⟨hl, hla, hf⟩ := hs.of
  have hr : Rd w A la a := Rd.of_C (Kd.F_now hf)
  obtain ⟨N, hN⟩ : ∃ N : Nat, N = n.toNat := ⟨_, rfl⟩
  have hmx : (if n < 0 then 0 else n) = (N : Int) := by split <;> omega
  have HA := Aside0.mk hr
  rw [← hN]
  obtain ⟨Q, hQ⟩ : ∃ Q : Nat, Q = N / 64 := ⟨_, rfl⟩
  obtain ⟨R, hR⟩ : ∃ R : Nat, R = N % 64 := ⟨_, rfl⟩
  have hd : (N : Int) / 64 = (Q : Int) := by omega
  have hm : (N : Int) % 64 = (R : Int) := by omega
  have hQb : Q ≤ 1099511627776 := by omega
  have hRb : R < 64 := by omega
  have HN := Aside0.mk (show N = 64 * Q + R by omega)
  have HS := Aside0.mk hs
  have HL := Aside0.mk hl
  clear hr hN hn hQ hR hs hf hl
  by_cases hq : la ≤ Q
  · have hv : val Num.W a % 2 ^ N = val Num.W a := Nat.mod_eq_of_lt (Nat.lt_of_lt_of_le (val_lt Num.W_pos hia) (by rw [HA.out.1, W_pow, HN.out]; exact Nat.pow_le_pow_right (by decide) (by omega)))
    rw [hv]
    clear hv
    go_enter Try.func21, Try.ntmps21
    go_wp2_with ((go_at_call 28); (refine (nat_norm' _ la ca a _ HA.out hla hia).mono ?_); (rintro e w' ⟨j, hk1, hk2, rfl, rfl⟩))
    refine bodyPost_ret (results_tmp rfl _ _ _) rfl ?_
    refine ⟨_, rfl, ?_, Below.refl _ _⟩
    rw [← hk2]
    exact HS.out.cut j (by have := HL.out; omega) (fun _ h => .inl h)
  · obtain ⟨ad, rfl, hcell⟩ := HA.out.2.2 (by omega)
    have hmk := fun W => run_make_len (Q + 1) (by omega) W
    have hmk' : ∀ W : World, (Instr.makeSlice 22 (.int .i64 ((Q : Int) + 1)) (.int .i64 ((Q : Int) + 1))).run Try.prog W = .ok (.slice (some ⟨W.heap.size, 0, none⟩) (Q + 1) (Q + 1)) (W.alloc (.cells (madeCells #[.int .u64 0] (Q + 1)) 40)) := hmk
    have hct : ∀ W : World, (Instr.slice 22 (.slice (some ad) la ca) none (some (.int .i64 ((Q : Int) + 1))) (some (.int .i64 ((Q : Int) + 1)))).run Try.prog W = .ok (.slice (some ad) (Q + 1) (Q + 1)) W := fun W => run_cut3 (some ad) la ca (Q + 1) (by omega) W
    have hal : a.length = la := HA.out.1
    have hdl : (a.take (Q + 1)).length = Q + 1 := by simp [hal]; omega
    have hb0 : Below w.heap.size w (w.alloc (.cells (madeCells #[.int .u64 0] (Q + 1)) 40)) := below_alloc (Below.refl _ _) _
    obtain ⟨w2, hcp, hrow, hbel, _, _⟩ := run_copy64 (w.alloc (.cells (madeCells #[.int .u64 0] (Q + 1)) 40)) w.heap.size 0 (Q + 1) (Q + 1) (List.replicate (Q + 1) 0) (Row64.made (Q + 1)) ad (Q + 1) (Q + 1) (a.take (Q + 1)) (by rw [hdl]; exact (Nat.min_self _).symm) (fun j hj => by
      have hr := (HA.out.toB.keep hb0).1
      obtain ⟨ad', e, hc⟩ := hr.2.2 (by omega)
      cases e
      rw [hc j (by omega)]
      rw [List.getD_eq_getElem?_getD, List.getD_eq_getElem?_getD, List.getElem?_take, if_pos (by omega)]) (by rw [hdl]; simp)
    have hdr : List.drop (Q + 1) (List.replicate (Q + 1) (0 : Int)) = [] := List.drop_of_length_le (by simp)
    rw [List.take_zero, List.nil_append, hdl, Nat.zero_add, hdr, List.append_nil] at hrow
    rw [hdl] at hcp
    have hw : Wd (a.getD Q 0) := inB_getD Num.W_pos hia Q
    have hfq := blk_frozen hrow Q
    have hcq := (blk_cell hrow Q).trans (nums_at _ Q (by rw [hdl]; omega))
    rw [List.getD_eq_getElem?_getD, List.getElem?_take, if_pos (by omega), ← List.getD_eq_getElem?_getD] at hcq
    have hts := take_snoc a Q (by omega)
    have hset : (a.take (Q + 1)).set Q ((((a.getD Q 0).toNat % 2 ^ R : Nat)) : Int) = a.take Q ++ [((((a.getD Q 0).toNat % 2 ^ R : Nat)) : Int)] := by
      rw [hts, List.set_append_right _ _ (by simp; omega), List.length_take, Nat.min_eq_left (by omega), Nat.sub_self]; rfl
    have hlv := low_val hia HN.out hRb (by omega)
    obtain ⟨x, hx⟩ := Int.eq_ofNat_of_zero_le hw.1
    have hx2 : x < 18446744073709551616 := by have := hw.2; omega
    have hib : InB Num.W (a.take Q ++ [((((a.getD Q 0).toNat % 2 ^ R : Nat)) : Int)]) := inB_append.2 ⟨inB_take hia Q, inB_cons.2 ⟨by
      rw [hx, Int.toNat_natCast]
      have := Nat.mod_le x (2 ^ R)
      have := W_eq
      omega, inB_nil _⟩⟩
    rw [hx, Int.toNat_natCast] at hset hlv hib
    rw [hx] at hcq
    have hnew := Row64.set hrow Q ((x % 2 ^ R : Nat) : Int)
    rw [hset] at hnew
    have hrd := hnew.rd (n := Q + 1) (by simp; omega) (by omega)
    have hmask := mask_at x R hx2 hRb
    have hwr := mask_wr R hRb
    have hdt : (N : Int).tdiv 64 = (Q : Int) := by rw [Int.tdiv_eq_ediv_of_nonneg (by omega)]; exact hd
    have hmt : (N : Int).tmod 64 = (R : Int) := by rw [Int.tmod_eq_emod_of_nonneg (by omega)]; exact hm
    have hfq2 : w2.drew.frozen? ⟨w.heap.size, Q, none⟩ = false := hfq
    have hcq2 : w2.drew.cell? ⟨w.heap.size, Q, none⟩ = some (.int .u64 (x : Int)) := hcq
    have HRD := Aside0.mk hrd
    have HIB := Aside0.mk hib
    have HLV := Aside0.mk hlv
    have HB2 := Aside0.mk (hbel w.heap.size w (Nat.le_refl _) hb0)
    clear hal hdl hb0 hrow hbel hcell hdr hset hts hlv hib hnew hrd hw hx hmk
    go_enter Try.func21, Try.ntmps21
    go_wp2
    go_region
    all_goals
      go_wp2_with ((go_at_call 28); (refine (nat_norm' _ (Q + 1) (Q + 1) _ _ HRD.out.drew (Nat.le_refl _) HIB.out).mono ?_); (rintro e w' ⟨j, hk1, hk2, rfl, rfl⟩))
      refine bodyPost_ret (results_tmp rfl _ _ _) rfl ?_
      rw [HLV.out] at hk2
      refine ⟨_, rfl, Vw.of_Rd (n := j) ?_ (Nat.le_refl _) (fun ad e _ => by cases e; exact .inr (Nat.le_refl _)), (HB2.out.setCell (p := ⟨w.heap.size, Q, none⟩) (Nat.le_refl _) _).drew⟩
      rw [← hk2]
      exact HRD.out.drew.take j (by have := HRD.out.1; omega)

def nat_Low.f (l0 : List Int) (a1 : Int) : Option (List Int) := if inb l0 = true ∧ l0.length ≤ LIM ∧ a1 ≤ NLIM then some (dig W (val W l0 % 2 ^ a1.toNat)) else none
theorem nat_Low.calls (P0_ : Nat → Prop) (A0 : Option Addr) (c0 : Nat) (l0 : List Int) (a1 : Int) (r : List Int) (w : World)
    (hs0 : Kd.V (Kd.int .u64) 40 w w.heap.size (fun k_ => P0_ k_) (.slice A0 l0.length c0) l0) (h : nat_Low.f l0 a1 = some r) :
    Calls Try.prog 21 #[.slice A0 l0.length c0, .int .i64 a1] w fun e w' => ∃ v0_ : Value, e = .returned (v0_) ∧ Kd.V (Kd.int .u64) 40 w' w.heap.size (fun k_ => (P0_ k_ ∨ w.heap.size ≤ k_)) v0_ r ∧ Below w.heap.size w w' := by
  unfold nat_Low.f at h
  split at h
  · rename_i hi
    cases h
    exact Calls.mono (nat_low P0_ A0 _ c0 l0 a1 w hs0 (inb_iff.1 hi.1) hi.2.1 hi.2.2) fun _ _ h => h
  · cases h
end Go.Proofs.Ytmanafcncccidaa.Hand
