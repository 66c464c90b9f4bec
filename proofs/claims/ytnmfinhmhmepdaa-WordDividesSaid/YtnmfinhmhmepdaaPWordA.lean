/- What the laws of word reckon with, in plain numbers. -/
import Derived.Test.YtnmfinhmhmepdaaHBits
import Derived.OpenShut
import Derived.IntWalk
import Derived.Test.YtnmfinhmhmepdaaPa1
import Derived.Test.YtnmfinhmhmepdaaPa2
namespace Go.Proofs.Ytnmfinhmhmepdaa.Pure
open Go.RowKit Go.Proofs.Ytnmfinhmhmepdaa.Pa Go.Proofs.YtnmfinhmhmepdaaW.PrintWords Go.Proofs.YtnmfinhmhmepdaaW.PrintMore Go.Proofs.YtnmfinhmhmepdaaW.PrintLast Go.Proofs.Ytnmfinhmhmepdaa.Hand Go.Proofs.Ytnmfinhmhmepdaa.Num
set_option linter.unusedVariables false
set_option linter.unusedSimpArgs false

/-- With enough rounds the answer is r. -/
def Ev {α : Type} (F : Nat → Option α) (r : α) : Prop := ∃ K, ∀ k, K ≤ k → F k = some r
theorem Ev.succ {α : Type} {F : Nat → Option α} {r : α} (h : Ev (fun k => F (k + 1)) r) : Ev F r := by
  obtain ⟨K, hK⟩ := h
  refine ⟨K + 1, fun k hk => ?_⟩
  obtain ⟨j, rfl⟩ : ∃ j, k = j + 1 := ⟨k - 1, by omega⟩
  exact hK j (by omega)
theorem Ev.const {α : Type} {x : Option α} {r : α} (h : x = some r) : Ev (fun _ => x) r := ⟨0, fun _ _ => h⟩
theorem Ev.congr {α : Type} {F G : Nat → Option α} {r : α} (h : ∀ k, F k = G k) (hg : Ev G r) : Ev F r := by
  obtain ⟨K, hK⟩ := hg
  exact ⟨K, fun k hk => (h k).trans (hK k hk)⟩
theorem Ev.bind {α β : Type} {f : Nat → Option α} {g : Nat → α → Option β} {a : α} {r : β} (h : Ev f a) (h2 : Ev (fun k => g k a) r) : Ev (fun k => (f k).bind (g k)) r := by
  obtain ⟨K, hK⟩ := h
  obtain ⟨K2, hK2⟩ := h2
  refine ⟨max K K2, fun k hk => ?_⟩
  show (f k).bind (g k) = some r
  rw [hK k (by omega), Option.bind_some]
  exact hK2 k (by omega)
theorem Ev.get {α : Type} {F : Nat → Option α} {r : α} (h : Ev F r) : ∃ k, F k = some r := by
  obtain ⟨K, hK⟩ := h
  exact ⟨K, hK K (Nat.le_refl _)⟩
theorem Ev.yes {α : Type} {c : Prop} [Decidable c] {A B : Nat → Option α} {r : α} (h : c) (hA : Ev A r) : Ev (fun k => if c then A k else B k) r := Ev.congr (fun k => if_pos h) hA
theorem Ev.no {α : Type} {c : Prop} [Decidable c] {A B : Nat → Option α} {r : α} (h : ¬ c) (hB : Ev B r) : Ev (fun k => if c then A k else B k) r := Ev.congr (fun k => if_neg h) hB
theorem w_succ (n : Nat) (h : n ≤ 17592186044416) : wrap64 ((n : Int) + 1) = ((n + 1 : Nat) : Int) := IntWalk.wrap64_in _ (by omega)
theorem w_nat (s : Nat) (h : s ≤ 9223372036854775807) : wrap64 (s : Int) = (s : Int) := IntWalk.wrap64_in _ (by omega)
theorem u_nat (s : Nat) (h : s < 18446744073709551616) : IntKind.u64.wrap (s : Int) = (s : Int) := by rw [IntKind.wrap_u64]; omega

theorem wd_of {x : Int} (h : (Lit.int .u64 x).wf = true) : Wd x := by have := bounds_u64 h; unfold Wd; omega
theorem shown1 : tallysticklaw01_shown.f = some true := by decide +kernel
theorem wadd {a b c : Int} (ha : Wd a) (hb : Wd b) (hc : Wd c) : word_Add.f a b c = some (sumLo a b (cut1 c), sumHi a b (cut1 c)) := by
  unfold word_Add.f; rw [if_pos ⟨wdb_iff.2 ha, wdb_iff.2 hb, wdb_iff.2 hc⟩]
theorem wsub {a b c : Int} (ha : Wd a) (hb : Wd b) (hc : Wd c) : word_Sub.f a b c = some (subLo a b (cut1 c), subHi a b (cut1 c)) := by
  unfold word_Sub.f; rw [if_pos ⟨wdb_iff.2 ha, wdb_iff.2 hb, wdb_iff.2 hc⟩]
theorem wmul {a b : Int} (ha : Wd a) (hb : Wd b) : word_Mul.f a b = some (mulHi a b, mulLo a b) := by
  unfold word_Mul.f; rw [if_pos ⟨wdb_iff.2 ha, wdb_iff.2 hb⟩]
theorem wlen {a : Int} (ha : Wd a) : word_Len.f a = some ((bl a.toNat : Nat) : Int) := by
  unfold word_Len.f; rw [if_pos (wdb_iff.2 ha)]
theorem wdiv {a b c : Int} (ha : Wd a) (hb : Wd b) (hc : Wd c) : word_Div.f a b c = some (divW a b c) := by
  unfold word_Div.f; rw [if_pos ⟨wdb_iff.2 ha, wdb_iff.2 hb, wdb_iff.2 hc⟩]
theorem wgcd {a b : Int} (ha : Wd a) (hb : Wd b) : word_Gcd.f a b = some ((Nat.gcd a.toNat b.toNat : Nat) : Int) := by
  unfold word_Gcd.f; rw [if_pos ⟨wdb_iff.2 ha, wdb_iff.2 hb⟩]
theorem divW_some {x y z : Nat} (h : x < z) (hy : y < 18446744073709551616) : ∃ q r : Nat, divW (x : Int) (y : Int) (z : Int) = ((q : Int), (r : Int), 0) ∧ q * z + r = x * 18446744073709551616 + y ∧ r < z ∧ q < 18446744073709551616 ∧ q = (x * 18446744073709551616 + y) / z ∧ r = (x * 18446744073709551616 + y) % z := by
  obtain ⟨N, hN⟩ : ∃ N, N = x * 18446744073709551616 + y := ⟨_, rfl⟩
  have hz0 : 0 < z := by omega
  have e : divW (x : Int) (y : Int) (z : Int) = (((N / z : Nat) : Int), ((N % z : Nat) : Int), 0) := by
    unfold divW
    rw [if_neg (by omega), if_neg (by omega), hN]
    rfl
  have h1 := Nat.div_add_mod N z
  have h2 := Nat.mod_lt N hz0
  have h3 : N / z < 18446744073709551616 := (Nat.div_lt_iff_lt_mul hz0).2 (by
    have := Nat.mul_le_mul_right 18446744073709551616 (show x + 1 ≤ z by omega)
    rw [hN, Nat.mul_comm _ z]; omega)
  rw [Nat.mul_comm] at h1
  rw [← hN]
  exact ⟨N / z, N % z, e, h1, h2, h3, rfl, rfl⟩
theorem wd0 : Wd 0 := by unfold Wd; omega
theorem cut1_0 : cut1 0 = 0 := rfl
theorem cut1_small {c : Int} (h1 : c ≤ 1) : cut1 c = c := by unfold cut1; rw [if_neg (by omega)]
end Go.Proofs.Ytnmfinhmhmepdaa.Pure
