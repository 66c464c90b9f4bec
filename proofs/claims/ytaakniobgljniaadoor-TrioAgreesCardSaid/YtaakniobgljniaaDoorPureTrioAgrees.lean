/- TrioAgrees: each place of an exact product is, modulo the primes, that of the product modulo them; and below the bound: for all rows of 600 places at most. -/
import Derived.Test.YtaakniobgljniaaDoorPTrioD
import Derived.Test.YtaakniobgljniaaDoorPTrioA
import Derived.Test.YtaakniobgljniaaDoorPb1
namespace Go.Proofs.YtaakniobgljniaaDoor.Pure
open Go.RowKit Go.Proofs.YtaakniobgljniaaDoor.Pa Go.Proofs.YtaakniobgljniaaDoor.Pb Go.Proofs.YtaakniobgljniaaDoorW.PrintWords Go.Proofs.YtaakniobgljniaaDoorW.PrintLast Go.Proofs.YtaakniobgljniaaDoor.Hand Go.Proofs.YtaakniobgljniaaDoor.Num
set_option linter.unusedVariables false
set_option linter.unusedSimpArgs false

theorem modV_prime (a b : List Int) (m : Nat) (h : isPrime3 m) : modV a b (m : Int) = (mrow (if a = [] ∨ b = [] then 0 else a.length + b.length - 1) m (cS a b a.length), 0) := by
  unfold modV
  rw [if_pos (by unfold isPrime3 at h; omega), Int.toNat_natCast]
  by_cases hn : a = [] ∨ b = []
  · rw [if_pos hn, if_pos hn]
    rfl
  · rw [if_neg hn, if_neg hn]
    rfl
theorem agrees_j2 {N i : Nat} {f : Nat → Nat} (hf : ∀ t, f t < 78674626319836206717730817) (hi : i < N) (k : Nat) :
    tallysticklaw09_TrioAgrees.j2 (k + 1) (i : Int) true (prow N f) (mrow N 998244353 f) (mrow N 167772161 f) (mrow N 469762049 f) false = some true := by
  have hat := prow_at (N := N) f hi
  have e0 : (pairN (f i)).f0 = ((f i / 18446744073709551616 : Nat) : Int) := rfl
  have e1 : (pairN (f i)).f1 = ((f i % 18446744073709551616 : Nat) : Int) := rfl
  have hl := hf i
  have hbl := below_eq (f i / 18446744073709551616) (f i % 18446744073709551616) (Nat.mod_lt _ (by decide))
  rw [pn_parts, decide_eq_true hl] at hbl
  have hs := split_eq (f i / 18446744073709551616) (f i % 18446744073709551616) (by omega) (Nat.mod_lt _ (by decide))
  rw [pn_parts] at hs
  rw [tallysticklaw09_TrioAgrees.j2, if_neg (by decide), if_pos (by omega), if_pos (by rw [prow_length]; omega), bound_eq, Option.bind_some, hat, e0, e1]
  dsimp only
  rw [hbl, Option.bind_some, if_pos rfl, if_pos rfl, hs, Option.bind_some, if_pos (by rw [mrow_length]; omega), if_pos (by rw [mrow_length]; omega), if_pos (by rw [mrow_length]; omega), mrow_at f hi, mrow_at f hi, mrow_at f hi]
  simp
theorem TrioAgrees (a b : List Int) (i : Int) (hm0 : a.length ≤ maxLen) (hw0 : ∀ x ∈ a, (Lit.int .u64 x).wf = true) (y0 : a.length * 8 ≤ 140737488351232) (hm1 : b.length ≤ maxLen) (hw1 : ∀ x ∈ b, (Lit.int .u64 x).wf = true) (y1 : b.length * 8 ≤ 140737488351232) (hm : (Lit.int .i64 i).wf = true) :
    ∃ k, tallysticklaw09_TrioAgrees.f k a b i = some true := by
  have ia := inB_of_wf hw0
  have ib := inB_of_wf hw1
  by_cases hlong : a.length > 600 ∨ b.length > 600
  · refine ⟨0 + 1, ?_⟩
    unfold tallysticklaw09_TrioAgrees.f
    rw [shown_true, Option.bind_some]
    by_cases h1 : (a.length : Int) > 600
    · rw [if_pos h1, tallysticklaw09_TrioAgrees.j0, if_pos rfl]
    · rw [if_neg h1, tallysticklaw09_TrioAgrees.j0, if_pos (decide_eq_true (by omega))]
  · have hla : a.length ≤ 1024 := by omega
    have hlb : b.length ≤ 1024 := by omega
    refine ⟨0 + 1 + 1 + 1, ?_⟩
    unfold tallysticklaw09_TrioAgrees.f
    rw [shown_true, Option.bind_some, if_neg (by omega), decide_eq_false (by omega), tallysticklaw09_TrioAgrees.j0, if_neg (by decide), times_eq ia ib hla hlb, Option.bind_some]
    by_cases hw : (a.any wideV || b.any wideV) = true
    · have e : timesV a b = ([], 1) := by unfold timesV; rw [if_pos hw]
      rw [e, if_neg (by decide), if_pos rfl]
      rfl
    · have ha : a.any wideV = false := by cases h : a.any wideV <;> simp [h] at hw ⊢
      have hb : b.any wideV = false := by cases h : b.any wideV <;> simp [h] at hw ⊢
      have e := timesV_some ha hb
      have ea := modV_prime a b 998244353 (.inl rfl)
      have eb := modV_prime a b 167772161 (.inr (.inl rfl))
      have ec := modV_prime a b 469762049 (.inr (.inr rfl))
      have hf : ∀ t, cS a b a.length t < 78674626319836206717730817 := fun t => cS_part ha hb hla t
      generalize (if a = [] ∨ b = [] then 0 else a.length + b.length - 1) = N at *
      generalize cS a b a.length = f at *
      rw [e, if_pos rfl, mod_eq _ ia ib hla hlb, Option.bind_some, mod_eq _ ia ib hla hlb, Option.bind_some, mod_eq _ ia ib hla hlb, Option.bind_some]
      rw [show modV a b 998244353 = _ from ea, show modV a b 167772161 = _ from eb, show modV a b 469762049 = _ from ec]
      rw [if_pos rfl, if_pos rfl, if_pos rfl, if_pos (by rw [mrow_length, prow_length]), if_pos (by rw [mrow_length, prow_length]), show (((mrow N 469762049 f).length : Int) != ((prow N f).length : Int)) = false by rw [mrow_length, prow_length]; simp, tallysticklaw09_TrioAgrees.j1, if_neg (by decide)]
      by_cases h0 : i < 0
      · rw [if_pos h0, tallysticklaw09_TrioAgrees.j2, if_pos rfl]
      · rw [if_neg h0]
        obtain ⟨n, rfl⟩ := Int.eq_ofNat_of_zero_le (show 0 ≤ i by omega)
        by_cases hn : n < N
        · rw [decide_eq_false (by rw [prow_length]; omega)]
          exact agrees_j2 hf hn 0
        · rw [decide_eq_true (by rw [prow_length]; omega), tallysticklaw09_TrioAgrees.j2, if_pos rfl]
end Go.Proofs.YtaakniobgljniaaDoor.Pure
