/- TrioSums: an exact product with a row of two words' sums is the sum of the products, where the sums are below 2^32: for all rows of 200 places at most. -/
import Derived.Test.YtaakniobgljniaaDoorPTrioD
import Derived.Test.YtaakniobgljniaaDoorPb6
namespace Go.Proofs.YtaakniobgljniaaDoor.Pure
open Go.RowKit Go.Proofs.YtaakniobgljniaaDoor.Pa Go.Proofs.YtaakniobgljniaaDoor.Pb Go.Proofs.YtaakniobgljniaaDoorW.PrintWords Go.Proofs.YtaakniobgljniaaDoorW.PrintLast Go.Proofs.YtaakniobgljniaaDoor.Hand Go.Proofs.YtaakniobgljniaaDoor.Num
set_option linter.unusedVariables false
set_option linter.unusedSimpArgs false

/-- Two pairs' sum. -/
theorem pair_two (n p : Nat) (hn : n < 78674626319836206717730817) (hp : p < 78674626319836206717730817) :
    (⟨IntKind.u64.wrap (IntKind.u64.wrap ((pairN n).f0 + (pairN p).f0) + (((n % 18446744073709551616 + p % 18446744073709551616) / 18446744073709551616 : Nat) : Int)), (((n % 18446744073709551616 + p % 18446744073709551616) % 18446744073709551616 : Nat) : Int)⟩ : S41) = pairN (n + p) := by
  have e0 : IntKind.u64.wrap ((pairN n).f0 + (pairN p).f0) = ((n / 18446744073709551616 + p / 18446744073709551616 : Nat) : Int) := by
    show IntKind.u64.wrap (((n / 18446744073709551616 : Nat) : Int) + ((p / 18446744073709551616 : Nat) : Int)) = _
    rw [← Int.natCast_add, u64_mod]
    congr 1
    omega
  have e1 : IntKind.u64.wrap (((n / 18446744073709551616 + p / 18446744073709551616 : Nat) : Int) + (((n % 18446744073709551616 + p % 18446744073709551616) / 18446744073709551616 : Nat) : Int)) = (((n + p) / 18446744073709551616 : Nat) : Int) := by
    rw [← Int.natCast_add, u64_mod]
    congr 1
    omega
  have e2 : (n % 18446744073709551616 + p % 18446744073709551616) % 18446744073709551616 = (n + p) % 18446744073709551616 := by omega
  rw [e0, e1, e2]
  rfl
theorem prow_snoc (n : Nat) (f : Nat → Nat) : prow n f ++ [pairN (f n)] = prow (n + 1) f := by
  unfold prow
  rw [List.range_succ, List.map_append]
  rfl
theorem sums_l1 {N : Nat} {fs fb fc : Nat → Nat} (hN : N ≤ 2048) (hb : ∀ t, fb t < 78674626319836206717730817) (hc : ∀ t, fc t < 78674626319836206717730817) (hs : ∀ t, fs t = fb t + fc t) :
    ∀ d i, i + d = N → Ev (fun k => tallysticklaw09_TrioSums.l1 k true (prow N fs) (prow N fb) (prow N fc) (prow i fs) (i : Int)) true
  | 0, i, h => by
    obtain rfl : i = N := by omega
    refine Ev.succ (Ev.congr (G := fun k => (tallystickref09_Pairs.f k (prow i fs) (prow i fs)).bind fun t466 => some t466) (fun k => ?_) (Ev.bind (pairs_ev _ (by rw [prow_length]; omega)) (Ev.const rfl)))
    rw [tallysticklaw09_TrioSums.l1, if_neg (by rw [prow_length]; omega), if_pos rfl]
  | d + 1, i, h => by
    refine Ev.succ (Ev.succ (Ev.congr (G := fun k => tallysticklaw09_TrioSums.l1 (k + 1) true (prow N fs) (prow N fb) (prow N fc) (prow (i + 1) fs) ((i + 1 : Nat) : Int)) (fun k => ?_) (Ev.up (sums_l1 hN hb hc hs d (i + 1) (by omega)))))
    have ab := prow_at (N := N) fb (t := i) (by omega)
    have ac := prow_at (N := N) fc (t := i) (by omega)
    have eb : (pairN (fb i)).f1 = ((fb i % 18446744073709551616 : Nat) : Int) := rfl
    have ec : (pairN (fc i)).f1 = ((fc i % 18446744073709551616 : Nat) : Int) := rfl
    rw [tallysticklaw09_TrioSums.l1, if_pos (by rw [prow_length]; omega), if_pos (by omega), if_pos (by rw [prow_length]; omega), ab, ac, eb, ec, add_two _ _ (Nat.mod_lt _ (by decide)) (Nat.mod_lt _ (by decide)), Option.bind_some, if_pos (by rw [prow_length]; omega), pair_two _ _ (hb i) (hc i), ← hs, prow_snoc, w_succ i (by omega)]
/-- The row of sums, so far. -/
def sumR (b c : List Int) (i : Nat) : List Int := (List.range i).map fun j => (((b.getD j 0).toNat + (c.getD j 0).toNat : Nat) : Int)
theorem sumR_length (b c : List Int) (i : Nat) : (sumR b c i).length = i := by simp [sumR]
theorem sumR_getD {b c : List Int} {i j : Nat} (h : j < i) : (sumR b c i).getD j 0 = (((b.getD j 0).toNat + (c.getD j 0).toNat : Nat) : Int) := by
  unfold sumR
  rw [List.getD_eq_getElem?_getD, List.getElem?_eq_getElem (by simpa using h)]
  simp
theorem sumR_snoc (b c : List Int) (i : Nat) : sumR b c i ++ [(((b.getD i 0).toNat + (c.getD i 0).toNat : Nat) : Int)] = sumR b c (i + 1) := by
  unfold sumR
  rw [List.range_succ, List.map_append]
  rfl
theorem narrow_of {l : List Int} (h : ∀ j, j < l.length → (l.getD j 0).toNat < 4294967296) : l.any wideV = false := by
  rw [List.any_eq_false]
  intro x hx
  obtain ⟨j, hj, rfl⟩ := List.getElem_of_mem hx
  have h1 := h j hj
  rw [List.getD_eq_getElem?_getD, List.getElem?_eq_getElem hj] at h1
  have h2 : l[j].toNat < 4294967296 := h1
  unfold wideV
  simp only [decide_eq_true_eq]
  omega
theorem sums_end {a b c : List Int} (ia : InB W a) (ib : InB W b) (ic : InB W c) (hla : a.length ≤ 200) (hlb : b.length ≤ 200) (hlc : c.length = b.length) (hs : ∀ j, j < b.length → (b.getD j 0).toNat < 2147483648 ∧ (c.getD j 0).toNat < 2147483648) :
    Ev (fun k => tallysticklaw09_TrioSums.l0 k a b c true (sumR b c b.length) ((b.length : Nat) : Int)) true := by
  have nb : b.any wideV = false := narrow_of fun j hj => by have := hs j hj; omega
  have nc : c.any wideV = false := narrow_of fun j hj => by have := hs j (by omega); omega
  have ns : (sumR b c b.length).any wideV = false := narrow_of fun j hj => by
    rw [sumR_length] at hj
    rw [sumR_getD hj, Int.toNat_natCast]
    have := hs j hj
    omega
  have is : InB W (sumR b c b.length) := fun x hx => by
    obtain ⟨j, hj, rfl⟩ := List.getElem_of_mem hx
    rw [sumR_length] at hj
    have e := sumR_getD (b := b) (c := c) hj
    rw [List.getD_eq_getElem?_getD, List.getElem?_eq_getElem (by rw [sumR_length]; exact hj)] at e
    have e2 : (sumR b c b.length)[j] = (((b.getD j 0).toNat + (c.getD j 0).toNat : Nat) : Int) := e
    rw [e2, W_eq]
    have := hs j hj
    omega
  have ls := sumR_length b c b.length
  refine Ev.succ ?_
  cases ha : a.any wideV with
  | true =>
    refine Ev.succ (Ev.congr (G := fun _ => some true) (fun k => ?_) (Ev.const rfl))
    rw [tallysticklaw09_TrioSums.l0, if_neg (by omega), times_eq ia is (by omega) (by omega), Option.bind_some, times_eq ia ib (by omega) (by omega), Option.bind_some, times_eq ia ic (by omega) (by omega), Option.bind_some, timesV_wide ha, timesV_wide ha, timesV_wide ha]
    rw [if_neg (by decide), tallysticklaw09_TrioSums.j2, if_pos rfl, if_pos rfl, if_pos rfl]
    rfl
  | false =>
    have hN : ∀ x : List Int, x.length = b.length → (if a = [] ∨ x = [] then 0 else a.length + x.length - 1) = (if a = [] ∨ b = [] then 0 else a.length + b.length - 1) := fun x hx => by
      have h : x = [] ↔ b = [] := ⟨fun e => List.eq_nil_of_length_eq_zero (by rw [← hx, e]; rfl), fun e => List.eq_nil_of_length_eq_zero (by rw [hx, e]; rfl)⟩
      by_cases h1 : a = [] ∨ b = []
      · rw [if_pos h1, if_pos (h1.imp_right h.2)]
      · rw [if_neg h1, if_neg fun e => h1 (e.imp_right h.1), hx]
    obtain ⟨N, hNN⟩ : ∃ N, N = (if a = [] ∨ b = [] then 0 else a.length + b.length - 1) := ⟨_, rfl⟩
    have hNb : N ≤ 2048 := by rw [hNN]; split <;> omega
    have es := timesV_some ha ns
    have eb := timesV_some ha nb
    have ec := timesV_some ha nc
    rw [hN _ ls, ← hNN] at es
    rw [← hNN] at eb
    rw [hN _ hlc, ← hNN] at ec
    have hadd : ∀ j, ((sumR b c b.length).getD j 0).toNat = (b.getD j 0).toNat + (c.getD j 0).toNat := fun j => by
      by_cases hj : j < b.length
      · rw [sumR_getD hj, Int.toNat_natCast]
      · rw [getD_far (by rw [ls]; omega), getD_far (by omega), getD_far (by omega)]
        rfl
    refine Ev.succ (Ev.congr (G := fun k => tallysticklaw09_TrioSums.l1 k true (prow N (cS a (sumR b c b.length) a.length)) (prow N (cS a b a.length)) (prow N (cS a c a.length)) (prow 0 (cS a (sumR b c b.length) a.length)) ((0 : Nat) : Int)) (fun k => ?_)
      (sums_l1 hNb (fun t => cS_part ha nb (by omega) t) (fun t => cS_part ha nc (by omega) t) (fun t => cS_add hadd t a.length) N 0 (by omega)))
    rw [tallysticklaw09_TrioSums.l0, if_neg (by omega), times_eq ia is (by omega) (by omega), Option.bind_some, times_eq ia ib (by omega) (by omega), Option.bind_some, times_eq ia ic (by omega) (by omega), Option.bind_some, es, eb, ec]
    rw [if_pos rfl, if_pos rfl, tallysticklaw09_TrioSums.j2, if_neg (by simp)]
    rfl
theorem sums_l0 {a b c : List Int} (ia : InB W a) (ib : InB W b) (ic : InB W c) (hla : a.length ≤ 200) (hlb : b.length ≤ 200) (hlc : c.length = b.length) :
    ∀ d i, i + d = b.length → (∀ j, j < i → (b.getD j 0).toNat < 2147483648 ∧ (c.getD j 0).toNat < 2147483648) → Ev (fun k => tallysticklaw09_TrioSums.l0 k a b c true (sumR b c i) (i : Int)) true
  | 0, i, h, hs => by
    obtain rfl : i = b.length := by omega
    exact sums_end ia ib ic hla hlb hlc hs
  | d + 1, i, h, hs => by
    have pb := getD_pos ib i
    have pc := getD_pos ic i
    by_cases h1 : rd b (i : Int) ≥ 2147483648
    · exact Ev.succ (Ev.congr (G := fun _ => some true) (fun k => by rw [tallysticklaw09_TrioSums.l0, if_pos (by omega), if_pos (by omega), if_pos h1]) (Ev.const rfl))
    · by_cases h2 : rd c (i : Int) ≥ 2147483648
      · exact Ev.succ (Ev.congr (G := fun _ => some true) (fun k => by rw [tallysticklaw09_TrioSums.l0, if_pos (by omega), if_pos (by omega), if_neg h1, if_pos (by omega), if_pos h2]) (Ev.const rfl))
      · have e : IntKind.u64.wrap (rd b (i : Int) + rd c (i : Int)) = (((b.getD i 0).toNat + (c.getD i 0).toNat : Nat) : Int) := by
          rw [rd_nat] at h1 h2 ⊢
          rw [rd_nat, IntKind.wrap_u64]
          omega
        have hs2 : ∀ j, j < i + 1 → (b.getD j 0).toNat < 2147483648 ∧ (c.getD j 0).toNat < 2147483648 := fun j hj => by
          by_cases hji : j = i
          · subst hji
            rw [rd_nat] at h1 h2
            omega
          · exact hs j (by omega)
        exact Ev.succ (Ev.congr (G := fun k => tallysticklaw09_TrioSums.l0 k a b c true (sumR b c (i + 1)) ((i + 1 : Nat) : Int)) (fun k => by
          rw [tallysticklaw09_TrioSums.l0, if_pos (by omega), if_pos (by omega), if_neg h1, if_pos (by omega), if_neg h2, if_pos (by rw [sumR_length]; omega), e, sumR_snoc, w_succ i (by omega)]) (sums_l0 ia ib ic hla hlb hlc d (i + 1) (by omega) hs2))
theorem TrioSums (a b c : List Int) (hm0 : a.length ≤ maxLen) (hw0 : ∀ x ∈ a, (Lit.int .u64 x).wf = true) (y0 : a.length * 8 ≤ 140737488351232) (hm1 : b.length ≤ maxLen) (hw1 : ∀ x ∈ b, (Lit.int .u64 x).wf = true) (y1 : b.length * 8 ≤ 140737488351232) (hm2 : c.length ≤ maxLen) (hw2 : ∀ x ∈ c, (Lit.int .u64 x).wf = true) (y2 : c.length * 8 ≤ 140737488351232) :
    ∃ k, tallysticklaw09_TrioSums.f k a b c = some true := by
  have ia := inB_of_wf hw0
  have ib := inB_of_wf hw1
  have ic := inB_of_wf hw2
  by_cases hlong : a.length > 200 ∨ b.length > 200 ∨ b.length ≠ c.length
  · refine ⟨0 + 1, ?_⟩
    unfold tallysticklaw09_TrioSums.f
    rw [shown_true, Option.bind_some]
    by_cases h1 : (a.length : Int) > 200
    · rw [if_pos h1, tallysticklaw09_TrioSums.j0, if_pos rfl]
    · rw [if_neg h1]
      by_cases h2 : (b.length : Int) > 200
      · rw [if_pos h2, tallysticklaw09_TrioSums.j0, if_pos rfl]
      · rw [if_neg h2, show ((b.length : Int) != (c.length : Int)) = true by rw [bne_iff_ne]; omega, tallysticklaw09_TrioSums.j0, if_pos rfl]
  · refine Ev.get (Ev.congr (G := fun k => tallysticklaw09_TrioSums.j0 k a b c true false) (fun k => ?_) (Ev.succ (Ev.congr (G := fun k => tallysticklaw09_TrioSums.l0 k a b c true (sumR b c 0) ((0 : Nat) : Int)) (fun k => ?_) (sums_l0 ia ib ic (by omega) (by omega) (by omega) b.length 0 (by omega) (fun j hj => absurd hj (by omega))))))
    · unfold tallysticklaw09_TrioSums.f
      rw [shown_true, Option.bind_some, if_neg (by omega), if_neg (by omega), show ((b.length : Int) != (c.length : Int)) = false by rw [bne_eq_false_iff_eq]; omega]
    · rw [tallysticklaw09_TrioSums.j0, if_neg (by decide)]
      rfl
end Go.Proofs.YtaakniobgljniaaDoor.Pure
