/- word.Len, nat.Norm, nat.Len, nat.Shr, nat.Low by hand. -/
import Derived.Test.YtgoglfojjpibnaaHNatS
import Derived.Laws.BitsLemmas
import Derived.Laws.CopyOwn
namespace Go.Proofs.Ytgoglfojjpibnaa.Hand
open Go.RowKit Go.Proofs.YtgoglfojjpibnaaW.PrintWords Go.Proofs.YtgoglfojjpibnaaW.PrintMore Go.Proofs.Ytgoglfojjpibnaa.Num
set_option linter.unusedVariables false
set_option linter.unusedSimpArgs false
attribute [local go_sem] Oper.semAt_some max2_int min2_int max_two min_two

/-- How many bits a number has. -/
def bl (n : Nat) : Nat := if n = 0 then 0 else n.log2 + 1
theorem bl_le {n k : Nat} : bl n ≤ k ↔ n < 2 ^ k := by
  unfold bl
  split
  · rename_i h; subst h; simp [Nat.two_pow_pos]
  · rename_i h; exact (Nat.log2_lt h)

theorem bl_step (x k : Nat) : bl (x % 2 ^ (k + 1)) = if x / 2 ^ k % 2 = 1 then k + 1 else bl (x % 2 ^ k) := by
  rw [Nat.mod_pow_succ]
  have hr := Nat.mod_lt x (Nat.two_pow_pos k)
  split
  · rename_i h
    rw [h, Nat.mul_one]
    have h1 : bl (x % 2 ^ k + 2 ^ k) ≤ k + 1 := bl_le.2 (by rw [Nat.pow_succ]; omega)
    have h2 : ¬ bl (x % 2 ^ k + 2 ^ k) ≤ k := fun h => by have := bl_le.1 h; omega
    omega
  · rename_i h
    rw [show x / 2 ^ k % 2 = 0 by omega, Nat.mul_zero, Nat.add_zero]
theorem bit_at (x k : Nat) (hx : x < 18446744073709551616) : bits BinOp.and IntKind.u64 ((x : Int) / 2 ^ k) 1 = ((x / 2 ^ k % 2 : Nat) : Int) := by
  have e : ((x : Int) / 2 ^ k) = ((x / 2 ^ k : Nat) : Int) := by simp
  have h := bits_and_u64_nat (x / 2 ^ k) 1 (Nat.lt_of_le_of_lt (Nat.div_le_self _ _) hx) (by decide)
  rw [e]
  rw [Nat.and_one_is_mod] at h
  exact h

/-! ### nat.Norm, nat.Len -/
theorem Vw.of {w : World} {base : Nat} {ok : Nat → Prop} {A : Option Addr} {n c : Nat} {l : List Int} (h : Vw w base ok (.slice A n c) l) : n = l.length ∧ n ≤ c ∧ Kd.F (Kd.int .u64) w ok A n l := by
  obtain ⟨A', c', e, hc, hf⟩ := h
  injection e with e1 e2 e3
  subst e1; subst e2; subst e3
  exact ⟨rfl, hc, hf⟩
theorem Vw.cut {w : World} {base base' : Nat} {ok ok' : Nat → Prop} {A : Option Addr} {n c : Nat} {l : List Int} (h : Vw w base ok (.slice A n c) l) (k : Nat) (hk : k ≤ n) (hok : ∀ j, ok j → ok' j) : Vw w base' ok' (.slice A k k) (l.take k) := by
  obtain ⟨hn, _, hf⟩ := h.of
  have hl : (l.take k).length = k := by rw [List.length_take]; omega
  refine ⟨A, k, by rw [hl], by omega, fun W' hW => ?_⟩
  rw [hl]
  have h1 := Rd.of_C (hf W' fun j hj hlt => hW j (hok j hj) hlt)
  exact Rd.to_C (h1.take k hk)
def nat_Norm.f (l0 : List Int) : Option (List Int) := if inb l0 = true then some (dig W (val W l0)) else none
theorem nat_Norm.calls (P0_ : Nat → Prop) (A0 : Option Addr) (c0 : Nat) (l0 : List Int) (r : List Int) (w : World)
    (hs0 : Kd.V (Kd.int .u64) 38 w w.heap.size (fun k_ => P0_ k_) (.slice A0 l0.length c0) l0) (h : nat_Norm.f l0 = some r) :
    Calls Try.prog 33 #[.slice A0 l0.length c0] w fun e w' => ∃ v0_ : Value, e = .returned (v0_) ∧ Kd.V (Kd.int .u64) 38 w' w.heap.size (fun k_ => (P0_ k_ ∨ w.heap.size ≤ k_)) v0_ r ∧ Below w.heap.size w w' := by
  unfold nat_Norm.f at h
  split at h
  · rename_i hi
    cases h
    have hv := Vw.of hs0
    refine Calls.mono (nat_norm A0 c0 l0 w (Rd.of_C (Kd.F_now hv.2.2)) hv.2.1 (inb_iff.1 hi)) ?_
    rintro e w' ⟨m, hm, he, rfl, rfl⟩
    exact ⟨_, rfl, by rw [← he]; exact Vw.cut hs0 m hm (fun _ h => .inl h), Below.refl _ _⟩
  · cases h

/-- How many bits a row's value has. -/
def nat_Len.f (l0 : List Int) : Option Int := if inb l0 = true ∧ l0.length ≤ LIM then some (bl (val W l0)) else none
theorem bl_top {p q x : Nat} (hq : q < 2 ^ p) (hx : 0 < x) : bl (q + 2 ^ p * x) = p + bl x := by
  have h1 : bl (q + 2 ^ p * x) ≤ p + bl x := bl_le.2 (by
    have h2 : x < 2 ^ bl x := bl_le.1 (Nat.le_refl _)
    rw [Nat.pow_add]
    have := Nat.mul_le_mul_left (2 ^ p) h2
    rw [Nat.mul_succ] at this
    omega)
  have h3 : ¬ bl (q + 2 ^ p * x) ≤ p + bl x - 1 := fun h => by
    have h4 := bl_le.1 h
    have h5 : ¬ x < 2 ^ (bl x - 1) := fun h => by
      have := bl_le.2 h
      have : bl x ≠ 0 := fun h => by
        have := bl_le.1 (Nat.le_of_eq h)
        omega
      omega
    have h6 : bl x ≠ 0 := fun h => by
      have := bl_le.1 (Nat.le_of_eq h)
      omega
    rw [show p + bl x - 1 = p + (bl x - 1) by omega, Nat.pow_add] at h4
    have := Nat.mul_le_mul_left (2 ^ p) (Nat.le_of_not_lt h5)
    omega
  omega
theorem W_pow (k : Nat) : W ^ k = 2 ^ (64 * k) := by rw [Nat.pow_mul]; rfl
theorem bl_dig {l : List Int} {n : Nat} (h : dig W n = l) (k : Nat) (hl : l.length = k + 1) : bl n = 64 * k + bl (l.getD k 0).toNat := by
  have hi := dig_inB W_gt n
  have hv := val_dig W_gt n
  have ho := dig_ord W_gt n
  rw [h] at hi hv ho
  have e := val_take_succ W l k
  rw [← hl, List.take_length, hv] at e
  have hlt := val_take_lt hi k
  rw [W_pow] at hlt e
  have hx : l.getD k 0 ≠ 0 := by
    rcases ho with ho | ho
    · subst ho; simp at hl
    · rw [List.getLastD_eq_getLast?, List.getLast?_eq_getElem?, hl, Nat.add_sub_cancel] at ho
      rwa [List.getD_eq_getElem?_getD]
  have hx0 := (inB_getD W_pos hi k).1
  rw [e, bl_top hlt (by omega)]
/-- nat.Norm, how long it leaves the row said. -/
theorem nat_norm_at (A : Option Addr) (n c : Nat) (l : List Int) (w : World) (hr : Rd w A n l) (hc : n ≤ c) (hb : InB Num.W l) :
    Calls Try.prog 33 #[.slice A n c] w fun e w' => e = .returned (.slice A (dig Num.W (val Num.W l)).length (dig Num.W (val Num.W l)).length) ∧ w = w' := by
  have hl : l.length = n := hr.1
  subst hl
  refine (nat_norm A c l w hr hc hb).mono ?_
  rintro e w' ⟨m, hm, he, rfl, rfl⟩
  rw [← he, List.length_take, Nat.min_eq_left hm]
  exact ⟨rfl, rfl⟩
theorem norm_facts {l : List Int} (hb : InB Num.W l) : (dig Num.W (val Num.W l)).length ≤ l.length ∧ l.take (dig Num.W (val Num.W l)).length = dig Num.W (val Num.W l) := by
  have hlt := val_lt Num.W_pos hb
  have h1 := dig_length_le Num.W_gt hlt
  have hval : val Num.W l < Num.W ^ (dig Num.W (val Num.W l)).length := by have := val_lt Num.W_pos (dig_inB Num.W_gt (val Num.W l)); rwa [val_dig Num.W_gt] at this
  refine ⟨h1, dig_of Num.W_gt (inB_take hb _) ?_ ?_⟩
  · rcases Nat.eq_zero_or_pos (dig Num.W (val Num.W l)).length with h | h
    · rw [h]; exact .inl (by simp)
    · obtain ⟨k, hk⟩ : ∃ k, (dig Num.W (val Num.W l)).length = k + 1 := ⟨_, (Nat.succ_pred_eq_of_pos h).symm⟩
      rw [hk]
      refine .inr ?_
      have h0 : l.getD k 0 ≠ 0 := fun h0 => by
        have e := val_take_succ Num.W l k
        have hz : val Num.W (l.drop (k + 1)) = 0 := by
          have h3 : val Num.W l < Num.W ^ (k + 1) := by rw [← hk]; exact hval
          rw [val_drop_div Num.W_pos hb (k + 1) (by omega), Nat.div_eq_of_lt h3]
        have e2 := val_take_drop Num.W l (k + 1) (by omega)
        rw [hz, Nat.mul_zero, Nat.add_zero] at e2
        rw [h0, show Int.toNat 0 = 0 from rfl, Nat.mul_zero, Nat.add_zero] at e
        have h4 : val Num.W l < Num.W ^ k := by rw [e2, e]; exact val_take_lt hb k
        have := dig_length_le Num.W_gt h4
        omega
      rw [List.getLastD_eq_getLast?, List.getLast?_eq_getElem?, List.length_take, Nat.min_eq_left (by omega), List.getElem?_take, if_pos (by omega), Nat.add_sub_cancel]
      rwa [List.getD_eq_getElem?_getD] at h0
  · have e2 := val_take_drop Num.W l (dig Num.W (val Num.W l)).length h1
    rw [val_take_mod Num.W_pos hb _ h1, Nat.mod_eq_of_lt hval]
end Go.Proofs.Ytgoglfojjpibnaa.Hand
