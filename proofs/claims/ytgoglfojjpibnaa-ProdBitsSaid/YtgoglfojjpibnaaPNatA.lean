/- What the laws of nat reckon with, in plain numbers. -/
import Derived.Test.YtgoglfojjpibnaaPa1
import Derived.Test.YtgoglfojjpibnaaPa2
import Derived.Test.YtgoglfojjpibnaaPa3
import Derived.Test.YtgoglfojjpibnaaPa5
import Derived.OpenShut
import Derived.IntWalk
namespace Go.Proofs.Ytgoglfojjpibnaa.Pure
open Go.RowKit Go.Proofs.Ytgoglfojjpibnaa.Pa Go.Proofs.YtgoglfojjpibnaaW.PrintWords Go.Proofs.YtgoglfojjpibnaaW.PrintLast Go.Proofs.Ytgoglfojjpibnaa.Hand Go.Proofs.Ytgoglfojjpibnaa.Num
set_option linter.unusedVariables false
set_option linter.unusedSimpArgs false

theorem inB_of_wf {l : List Int} (h : ∀ x ∈ l, (Lit.int .u64 x).wf = true) : InB W l := fun x hx => by
  have := bounds_u64 (h x hx)
  rw [W_eq]
  omega
/-- A number of few words. -/
def Fit (k n : Nat) : Prop := n < W ^ k
theorem Fit.val {a : List Int} (h : InB W a) {k : Nat} (hk : a.length ≤ k) : Fit k (val W a) := Nat.lt_of_lt_of_le (val_lt W_pos h) (Nat.pow_le_pow_right W_pos hk)
theorem Fit.mono {j k n : Nat} (h : Fit j n) (hk : j ≤ k) : Fit k n := Nat.lt_of_lt_of_le h (Nat.pow_le_pow_right W_pos hk)
theorem Fit.le {k m n : Nat} (h : Fit k n) (hm : m ≤ n) : Fit k m := Nat.lt_of_le_of_lt hm h
theorem Fit.mul {j k m n : Nat} (h : Fit j m) (g : Fit k n) : Fit (j + k) (m * n) := by
  unfold Fit at *
  rw [Nat.pow_add]
  exact Nat.mul_lt_mul_of_lt_of_lt h g
theorem Fit.add {k m n : Nat} (h : Fit k m) (g : Fit k n) : Fit (k + 1) (m + n) := by
  unfold Fit at *
  rw [Nat.pow_succ]
  have := W_gt
  have : W ^ k * 2 ≤ W ^ k * W := Nat.mul_le_mul_left _ this
  omega
theorem Fit.dig {k n : Nat} (h : Fit k n) : (dig W n).length ≤ k := dig_length_le W_gt h
theorem Fit.pow {n k : Nat} (h : n < 64 * k) : Fit k (2 ^ n) := by
  unfold Fit
  rw [W_pow]
  exact Nat.pow_lt_pow_right (by decide) h
theorem Fit.bl {k n : Nat} (h : Fit k n) : Hand.bl n ≤ 64 * k := bl_le.2 (by rw [← W_pow]; exact h)
theorem inb_of {l : List Int} (h : InB W l) : inb l = true := inb_iff.2 h
theorem add_eq {a b : List Int} (ha : InB W a) (hb : InB W b) (la : a.length ≤ 1000) (lb : b.length ≤ 1000) : nat_Add.f a b = some (dig W (val W a + val W b)) := by
  unfold nat_Add.f LIM; rw [if_pos ⟨inb_of ha, inb_of hb, by omega, by omega⟩]
theorem sub_eq' {a b : List Int} (ha : InB W a) (hb : InB W b) (la : a.length ≤ 1000) (lb : b.length ≤ 1000) : nat_Sub.f a b = some (if val W a < val W b then [] else dig W (val W a - val W b), if val W a < val W b then 3 else 0) := by
  unfold nat_Sub.f LIM; rw [if_pos ⟨inb_of ha, inb_of hb, by omega, by omega⟩]
theorem cmp_eq {a b : List Int} (ha : InB W a) (hb : InB W b) : nat_Cmp.f a b = some (cmpv (val W a) (val W b)) := by
  unfold nat_Cmp.f; rw [if_pos ⟨inb_of ha, inb_of hb⟩]
theorem scale_eq {a : List Int} {x : Int} (ha : InB W a) (hx : Wd x) (la : a.length ≤ 1000) : nat_Scale.f a x = some (dig W (val W a * x.toNat)) := by
  unfold nat_Scale.f LIM; rw [if_pos ⟨inb_of ha, wd_iff.2 hx, by omega⟩]
theorem shr_eq {a : List Int} {n : Int} (ha : InB W a) (la : a.length ≤ 1000) (hn : n ≤ 3000) : nat_Shr.f a n = some (dig W (val W a / 2 ^ n.toNat)) := by
  unfold nat_Shr.f LIM NLIM; rw [if_pos ⟨inb_of ha, by omega, by omega⟩]
theorem shl_eq {a : List Int} {n : Int} (ha : InB W a) (la : a.length ≤ 1000) (hn : n ≤ 3000) : nat_Shl.f a n = some (dig W (val W a * 2 ^ n.toNat)) := by
  unfold nat_Shl.f SLIM NLIM; rw [if_pos ⟨inb_of ha, by omega, by omega⟩]
theorem low_eq {a : List Int} {n : Int} (ha : InB W a) (la : a.length ≤ 1000) (hn : n ≤ 3000) : nat_Low.f a n = some (dig W (val W a % 2 ^ n.toNat)) := by
  unfold nat_Low.f LIM NLIM; rw [if_pos ⟨inb_of ha, by omega, by omega⟩]
theorem len_eq {a : List Int} (ha : InB W a) (la : a.length ≤ 1000) : nat_Len.f a = some ((bl (val W a) : Nat) : Int) := by
  unfold nat_Len.f LIM; rw [if_pos ⟨inb_of ha, by omega⟩]
theorem norm_eq {a : List Int} (ha : InB W a) : nat_Norm.f a = some (dig W (val W a)) := by
  unfold nat_Norm.f; rw [if_pos (inb_of ha)]
theorem dI (n : Nat) : InB W (dig W n) := dig_inB W_gt n
theorem dV (n : Nat) : val W (dig W n) = n := val_dig W_gt n
theorem cmpv_lt {m n : Nat} (h : m < n) : cmpv m n = -1 := if_pos h
theorem cmpv_eq (m : Nat) : cmpv m m = 0 := by unfold cmpv; rw [if_neg (by omega), if_neg (by omega)]
theorem cmpv_gt {m n : Nat} (h : n < m) : cmpv m n = 1 := by unfold cmpv; rw [if_neg (by omega), if_pos h]
theorem cmpv_add (m n k : Nat) : cmpv (m + k) (n + k) = cmpv m n := by unfold cmpv; simp
end Go.Proofs.Ytgoglfojjpibnaa.Pure
