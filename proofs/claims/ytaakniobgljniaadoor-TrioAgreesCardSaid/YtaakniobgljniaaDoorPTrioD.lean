/- Texts joined into one: each with its own sentence of what is proved, and under which conditions. -/
import Derived.Test.YtaakniobgljniaaDoorPTrioA
import Derived.Test.YtaakniobgljniaaDoorPEv
import Derived.Test.YtaakniobgljniaaDoorPa4
import Derived.Test.YtaakniobgljniaaDoorPa5
import Derived.Test.YtaakniobgljniaaDoorPa6
import Derived.Test.YtaakniobgljniaaDoorPa7
/- The document's answers for trio's products, plain: rows of pairs, exact products, products modulo a prime. -/
namespace Go.Proofs.YtaakniobgljniaaDoor.Pure
open Go.RowKit Go.Proofs.YtaakniobgljniaaDoor.Pa Go.Proofs.YtaakniobgljniaaDoorW.PrintWords Go.Proofs.YtaakniobgljniaaDoorW.PrintLast Go.Proofs.YtaakniobgljniaaDoor.Hand Go.Proofs.YtaakniobgljniaaDoor.Num
set_option linter.unusedVariables false
set_option linter.unusedSimpArgs false

theorem Ev.up {α : Type} {F : Nat → Option α} {r : α} (h : Ev F r) : Ev (fun k => F (k + 1)) r := by
  obtain ⟨K, hK⟩ := h
  exact ⟨K, fun k hk => hK (k + 1) (by omega)⟩
/-! ### rows that are the same -/
theorem pairs_loop (xs : List S41) (hl : xs.length ≤ 17592186044416) : ∀ d i, i + d = xs.length → Ev (fun k => tallystickref09_Pairs.l0 k xs xs (i : Int)) true
  | 0, i, h => Ev.succ (Ev.congr (G := fun _ => some true) (fun k => by rw [tallystickref09_Pairs.l0, if_neg (by omega)]) (Ev.const rfl))
  | d + 1, i, h => Ev.succ (Ev.congr (G := fun k => tallystickref09_Pairs.l0 k xs xs ((i + 1 : Nat) : Int)) (fun k => by
      rw [tallystickref09_Pairs.l0, if_pos (by omega), if_pos (by omega), if_pos (by omega), if_neg (by simp), w_succ i (by omega)]) (pairs_loop xs hl d (i + 1) (by omega)))
theorem pairs_ev (xs : List S41) (hl : xs.length ≤ 17592186044416) : Ev (fun k => tallystickref09_Pairs.f k xs xs) true :=
  Ev.congr (G := fun k => tallystickref09_Pairs.l0 k xs xs ((0 : Nat) : Int)) (fun k => by unfold tallystickref09_Pairs.f; rw [if_pos rfl]; rfl) (pairs_loop xs hl xs.length 0 (by omega))
theorem rows_loop (xs : List Int) (hl : xs.length ≤ 17592186044416) : ∀ d i, i + d = xs.length → Ev (fun k => tallystickref09_Rows.l0 k xs xs (i : Int)) true
  | 0, i, h => Ev.succ (Ev.congr (G := fun _ => some true) (fun k => by rw [tallystickref09_Rows.l0, if_neg (by omega)]) (Ev.const rfl))
  | d + 1, i, h => Ev.succ (Ev.congr (G := fun k => tallystickref09_Rows.l0 k xs xs ((i + 1 : Nat) : Int)) (fun k => by
      rw [tallystickref09_Rows.l0, if_pos (by omega), if_pos (by omega), if_pos (by omega), if_pos rfl, w_succ i (by omega)]) (rows_loop xs hl d (i + 1) (by omega)))
theorem rows_ev (xs : List Int) (hl : xs.length ≤ 17592186044416) : Ev (fun k => tallystickref09_Rows.f k xs xs) true :=
  Ev.congr (G := fun k => tallystickref09_Rows.l0 k xs xs ((0 : Nat) : Int)) (fun k => by unfold tallystickref09_Rows.f; rw [if_pos rfl]; rfl) (rows_loop xs hl xs.length 0 (by omega))

/-! ### a sum of two words, and a pair's -/
theorem u64_mod (n : Nat) : IntKind.u64.wrap (n : Int) = ((n % 18446744073709551616 : Nat) : Int) := by rw [IntKind.wrap_u64]; omega
theorem add_two (x y : Nat) (hx : x < 18446744073709551616) (hy : y < 18446744073709551616) (k : Nat) :
    tallystickref01_Add.f (k + 1) (x : Int) (y : Int) 0 = some ((((x + y) % 18446744073709551616 : Nat) : Int), (((x + y) / 18446744073709551616 : Nat) : Int)) := by
  have e1 : IntKind.u64.wrap ((x : Int) + (y : Int)) = (((x + y) % 18446744073709551616 : Nat) : Int) := by rw [← u64_mod]; congr 1
  have e2 : IntKind.u64.wrap ((((x + y) % 18446744073709551616 : Nat) : Int) + 0) = (((x + y) % 18446744073709551616 : Nat) : Int) := by rw [Int.add_zero, u64_mod, Nat.mod_mod]
  unfold tallystickref01_Add.f
  rw [if_neg (by decide), tallystickref01_Add.j0, e1, e2]
  by_cases h : x + y < 18446744073709551616
  · rw [Nat.mod_eq_of_lt h, Nat.div_eq_of_lt h, if_neg (by omega), if_neg (by omega)]
    rfl
  · have h1 : (x + y) % 18446744073709551616 = x + y - 18446744073709551616 := by omega
    have h2 : (x + y) / 18446744073709551616 = 1 := by omega
    rw [h1, h2, if_pos (by omega), if_neg (by omega)]
    rfl
/-- A pair's low word and another word's sum. -/
theorem pair_add (n p : Nat) (hn : n < 78674626319836206717730817) (hp : p < 18446744073709551616) :
    (⟨IntKind.u64.wrap ((pairN n).f0 + (((n % 18446744073709551616 + p) / 18446744073709551616 : Nat) : Int)), (((n % 18446744073709551616 + p) % 18446744073709551616 : Nat) : Int)⟩ : S41) = pairN (n + p) := by
  have e1 : IntKind.u64.wrap ((pairN n).f0 + (((n % 18446744073709551616 + p) / 18446744073709551616 : Nat) : Int)) = (((n + p) / 18446744073709551616 : Nat) : Int) := by
    show IntKind.u64.wrap (((n / 18446744073709551616 : Nat) : Int) + (((n % 18446744073709551616 + p) / 18446744073709551616 : Nat) : Int)) = _
    rw [← Int.natCast_add, u64_mod]
    congr 1
    omega
  have e2 : (n % 18446744073709551616 + p) % 18446744073709551616 = (n + p) % 18446744073709551616 := by omega
  rw [e1, e2]
  rfl

/-! ### rows of pairs, by a rule -/
def prow (N : Nat) (f : Nat → Nat) : List S41 := (List.range N).map fun t => pairN (f t)
theorem prow_length (N : Nat) (f : Nat → Nat) : (prow N f).length = N := by simp [prow]
theorem prow_at {N : Nat} (f : Nat → Nat) {t : Nat} (ht : t < N) : rd_T41 (prow N f) (t : Int) = pairN (f t) := by
  unfold rd_T41 prow
  rw [Int.toNat_natCast, List.getD_eq_getElem?_getD, List.getElem?_eq_getElem (by simpa using ht)]
  simp
theorem prow_set (N : Nat) (f : Nat → Nat) (m v : Nat) : (prow N f).set m (pairN v) = prow N (fun t => if t = m then v else f t) := by
  refine List.ext_getElem (by simp [prow]) fun t h1 h2 => ?_
  rw [List.getElem_set]
  simp only [prow, List.getElem_map, List.getElem_range]
  by_cases h : m = t
  · rw [if_pos h, if_pos h.symm]
  · rw [if_neg h, if_neg (Ne.symm h)]
theorem prow_congr {N : Nat} {f g : Nat → Nat} (h : ∀ t, t < N → f t = g t) : prow N f = prow N g := by
  refine List.ext_getElem (by simp [prow]) fun t h1 h2 => ?_
  simp only [prow, List.getElem_map, List.getElem_range]
  rw [h t (by simpa [prow] using h1)]
theorem prow_zero (N : Nat) : List.replicate N z41 = prow N (fun _ => 0) := by
  refine List.ext_getElem (by simp [prow]) fun t h1 h2 => ?_
  simp only [prow, List.getElem_map, List.getElem_range, List.getElem_replicate]
  rfl
/-- A row under way: the products of the first i numbers of a, and of number i with the first j of b. -/
def cSj (a b : List Int) (i j t : Nat) : Nat := cS a b i t + if i ≤ t ∧ t - i < j then (a.getD i 0).toNat * (b.getD (t - i) 0).toNat else 0
theorem cSj_zero (a b : List Int) (i : Nat) : cSj a b i 0 = cS a b i := by
  funext t
  unfold cSj
  rw [if_neg (by omega)]
  rfl
theorem cSj_step (a b : List Int) (i j : Nat) : (fun t => if t = i + j then cSj a b i j (i + j) + (a.getD i 0).toNat * (b.getD j 0).toNat else cSj a b i j t) = cSj a b i (j + 1) := by
  funext t
  unfold cSj
  by_cases h : t = i + j
  · subst h
    rw [if_pos rfl, if_neg (by omega), if_pos (by omega), Nat.add_sub_cancel_left]
    rfl
  · rw [if_neg h]
    by_cases h2 : i ≤ t ∧ t - i < j
    · rw [if_pos h2, if_pos (by omega)]
    · rw [if_neg h2, if_neg (by omega)]
theorem cSj_end (a b : List Int) (i : Nat) : cSj a b i b.length = cS a b (i + 1) := by
  funext t
  unfold cSj
  show _ = cS a b i t + if i ≤ t then (a.getD i 0).toNat * (b.getD (t - i) 0).toNat else 0
  congr 1
  by_cases h1 : i ≤ t
  · rw [if_pos h1]
    by_cases h2 : t - i < b.length
    · rw [if_pos ⟨h1, h2⟩]
    · rw [if_neg (by omega), show b.getD (t - i) 0 = 0 by rw [List.getD_eq_getElem?_getD, List.getElem?_eq_none (by omega)]; rfl]
      rfl
  · rw [if_neg h1, if_neg (by omega)]
theorem cSj_at (a b : List Int) (i j : Nat) : cSj a b i j (i + j) = cS a b i (i + j) := by
  unfold cSj
  rw [if_neg (by omega), Nat.add_zero]
theorem getD_small {a : List Int} (ha : a.any wideV = false) (i : Nat) : (a.getD i 0).toNat < 4294967296 := by
  rw [List.getD_eq_getElem?_getD]
  by_cases h : i < a.length
  · rw [List.getElem?_eq_getElem h]
    exact not_wide ha _ (List.getElem_mem h)
  · rw [List.getElem?_eq_none (by omega)]
    decide
theorem getD_pos {a : List Int} (ha : InB W a) (i : Nat) : 0 ≤ a.getD i 0 := by
  rw [List.getD_eq_getElem?_getD]
  by_cases h : i < a.length
  · rw [List.getElem?_eq_getElem h]
    exact (ha _ (List.getElem_mem h)).1
  · rw [List.getElem?_eq_none (by omega)]
    decide
theorem cS_part {a b : List Int} (ha : a.any wideV = false) (hb : b.any wideV = false) {i : Nat} (hi : i ≤ 1024) (t : Nat) : cS a b i t < 78674626319836206717730817 := by
  have h := cS_le (not_wide ha) (not_wide hb) i t
  have h2 : i * (4294967296 * 4294967296) ≤ 1024 * (4294967296 * 4294967296) := Nat.mul_le_mul_right _ hi
  exact Nat.lt_of_le_of_lt (Nat.le_trans h h2) (by decide)

/-! ### the exact product -/
section
variable {a b : List Int}
theorem prod_int (ia : InB W a) (ib : InB W b) (i j : Nat) : rd a (i : Int) * rd b (j : Int) = (((a.getD i 0).toNat * (b.getD j 0).toNat : Nat) : Int) := by
  rw [rd_nat, rd_nat, Int.natCast_mul, Int.toNat_of_nonneg (getD_pos ia i), Int.toNat_of_nonneg (getD_pos ib j)]
theorem small_mul {x y : Nat} (hx : x < 4294967296) (hy : y < 4294967296) : x * y < 18446744073709551616 := by
  have h : x * y ≤ 4294967295 * 4294967295 := Nat.mul_le_mul (by omega) (by omega)
  omega
theorem w_sum3 (x y : Nat) (hx : x ≤ 1048576) (hy : y ≤ 1048576) : wrap64 ((x : Int) + (y : Int)) = ((x + y : Nat) : Int) := by rw [IntWalk.wrap64_in _ (by omega)]; omega
mutual
theorem times_l2 (ia : InB W a) (ib : InB W b) (ha : a.any wideV = false) (hb : b.any wideV = false) (hla : a.length ≤ 1024) (hlb : b.length ≤ 1024) : ∀ d i, i + d = a.length → Ev (fun k => tallystickref09_Times.l2 k a b (prow (a.length + b.length - 1) (cS a b i)) (i : Int)) (prow (a.length + b.length - 1) (cS a b a.length), 0)
  | 0, i, h => by
    obtain rfl : i = a.length := by omega
    exact Ev.succ (Ev.congr (G := fun _ => some (prow (a.length + b.length - 1) (cS a b a.length), 0)) (fun k => by rw [tallystickref09_Times.l2, if_neg (by omega)]) (Ev.const rfl))
  | d + 1, i, h => by
    refine Ev.succ (Ev.congr (G := fun k => tallystickref09_Times.l3 k a b (prow (a.length + b.length - 1) (cSj a b i 0)) (i : Int) ((0 : Nat) : Int)) (fun k => by rw [tallystickref09_Times.l2, if_pos (by omega), cSj_zero]; rfl) ?_)
    exact times_l3 ia ib ha hb hla hlb d i h b.length 0 (by omega)
termination_by d _ => (d, 0)
theorem times_l3 (ia : InB W a) (ib : InB W b) (ha : a.any wideV = false) (hb : b.any wideV = false) (hla : a.length ≤ 1024) (hlb : b.length ≤ 1024) (d i : Nat) (h : i + (d + 1) = a.length) : ∀ e j, j + e = b.length → Ev (fun k => tallystickref09_Times.l3 k a b (prow (a.length + b.length - 1) (cSj a b i j)) (i : Int) (j : Int)) (prow (a.length + b.length - 1) (cS a b a.length), 0)
  | 0, j, hj => by
    obtain rfl : j = b.length := by omega
    refine Ev.succ (Ev.congr (G := fun k => tallystickref09_Times.l2 k a b (prow (a.length + b.length - 1) (cS a b (i + 1))) ((i + 1 : Nat) : Int)) (fun k => by rw [tallystickref09_Times.l3, if_neg (by omega), cSj_end, w_succ i (by omega)]) ?_)
    exact times_l2 ia ib ha hb hla hlb d (i + 1) (by omega)
  | e + 1, j, hj => by
    refine Ev.succ (Ev.succ (Ev.congr (G := fun k => tallystickref09_Times.l3 (k + 1) a b (prow (a.length + b.length - 1) (cSj a b i (j + 1))) (i : Int) ((j + 1 : Nat) : Int)) (fun k => ?_) (Ev.up (times_l3 ia ib ha hb hla hlb d i h e (j + 1) (by omega)))))
    have hn := cS_part ha hb (show i ≤ 1024 by omega) (i + j)
    have hp := small_mul (getD_small ha i) (getD_small hb j)
    have hat := prow_at (N := a.length + b.length - 1) (cSj a b i j) (t := i + j) (by omega)
    rw [cSj_at] at hat
    have hst := cSj_step a b i j
    rw [cSj_at] at hst
    rw [tallystickref09_Times.l3, if_pos (by omega), w_sum3 i j (by omega) (by omega), if_pos (by omega), if_pos (by rw [prow_length]; omega), if_pos (by omega), if_pos (by omega), if_pos (by omega), hat, prod_int ia ib, u64_mod, Nat.mod_eq_of_lt hp,
      show (pairN (cS a b i (i + j))).f1 = ((cS a b i (i + j) % 18446744073709551616 : Nat) : Int) from rfl, add_two _ _ (Nat.mod_lt _ (by decide)) hp, Option.bind_some, Int.toNat_natCast, pair_add _ _ hn hp, prow_set, hst, w_succ j (by omega)]
termination_by e _ => (d, e + 1)
end
theorem long_no (h : a.length ≤ 1024) (h2 : b.length ≤ 1024) : tallystickref09_long.f a b = some false := by
  unfold tallystickref09_long.f
  by_cases h3 : (a.length : Int) > 0
  · rw [if_pos h3]
    by_cases h4 : (b.length : Int) > 0
    · rw [if_pos h4, w_sum3 _ _ (by omega) (by omega), show ((a.length + b.length : Nat) : Int) = ((a.length + b.length - 1 + 1 : Nat) : Int) by omega, w_pred _ (by omega), decide_eq_false (by omega)]
    · rw [if_neg h4]
  · rw [if_neg h3]
theorem times_j2 (ia : InB W a) (ib : InB W b) (ha : a.any wideV = false) (hb : b.any wideV = false) (hla : a.length ≤ 1024) (hlb : b.length ≤ 1024) (hn : ¬ (a = [] ∨ b = [])) : Ev (fun k => tallystickref09_Times.j2 k a b false) (prow (a.length + b.length - 1) (cS a b a.length), 0) := by
  have ha0 : 0 < a.length := List.length_pos_iff.2 fun e => hn (.inl e)
  have hb0 : 0 < b.length := List.length_pos_iff.2 fun e => hn (.inr e)
  refine Ev.succ (Ev.congr (G := fun k => tallystickref09_Times.l2 k a b (prow (a.length + b.length - 1) (cS a b 0)) ((0 : Nat) : Int)) (fun k => ?_) (times_l2 ia ib ha hb hla hlb a.length 0 (by omega)))
  rw [tallystickref09_Times.j2, if_neg (by decide), w_sum3 _ _ (by omega) (by omega), show ((a.length + b.length : Nat) : Int) = ((a.length + b.length - 1 + 1 : Nat) : Int) by omega, w_pred _ (by omega), if_pos (by omega), Int.toNat_natCast, if_pos (by omega), prow_zero]
  rfl
theorem take_snoc {l : List Int} {i : Nat} (h : i < l.length) : l.take (i + 1) = l.take i ++ [l.getD i 0] := by
  rw [List.take_add_one, List.getElem?_eq_getElem h, List.getD_eq_getElem?_getD, List.getElem?_eq_getElem h]
  rfl
theorem wide_at {l : List Int} {i : Nat} (h : i < l.length) (hw : wideV (l.getD i 0) = true) : l.any wideV = true := any_of_take (k := i + 1) (by rw [take_snoc h, List.any_append]; simp only [List.any_cons, List.any_nil, Bool.or_false, hw, Bool.or_true])
theorem wide_on {l : List Int} {i : Nat} (h : i < l.length) (hf : (l.take i).any wideV = false) (hw : wideV (l.getD i 0) = false) : (l.take (i + 1)).any wideV = false := by rw [take_snoc h, List.any_append]; simp only [List.any_cons, List.any_nil, Bool.or_false, hw, hf]
theorem times_l1 {R : List S41 × Int} (hlb : b.length ≤ 1024) (hla : a.length ≤ 1024) (hyes : b.any wideV = true → R = ([], 1)) (hno : b.any wideV = false → R = if a = [] ∨ b = [] then ([], 0) else R) (hrun : b.any wideV = false → ¬ (a = [] ∨ b = []) → Ev (fun k => tallystickref09_Times.j2 k a b false) R) :
    ∀ d i, i + d = b.length → (b.take i).any wideV = false → Ev (fun k => tallystickref09_Times.l1 k a b (i : Int)) R
  | 0, i, h, hf => by
    have hb : b.any wideV = false := by rwa [List.take_of_length_le (by omega)] at hf
    by_cases hn : a = [] ∨ b = []
    · have hR := hno hb
      rw [if_pos hn] at hR
      subst hR
      refine Ev.succ (Ev.succ (Ev.congr (G := fun _ => some (([] : List S41), (0 : Int))) (fun k => ?_) (Ev.const rfl)))
      rw [tallystickref09_Times.l1, if_neg (by omega), long_no hla hlb, Option.bind_some, if_neg (by decide)]
      by_cases ha0 : (a.length : Int) = 0
      · rw [if_pos ha0, tallystickref09_Times.j2, if_pos rfl]
      · have hb0 : b = [] := by
          rcases hn with e | e
          · exact absurd (by rw [e]; rfl) ha0
          · exact e
        rw [if_neg ha0, hb0, tallystickref09_Times.j2, if_pos (by rfl)]
    · have ha0 : ¬ (a.length : Int) = 0 := fun e => hn (.inl (List.eq_nil_of_length_eq_zero (by omega)))
      have hb0 : ((b.length : Int) == 0) = false := by
        rw [beq_eq_false_iff_ne]
        exact fun e => hn (.inr (List.eq_nil_of_length_eq_zero (by omega)))
      exact Ev.succ (Ev.congr (G := fun k => tallystickref09_Times.j2 k a b false) (fun k => by rw [tallystickref09_Times.l1, if_neg (by omega), long_no hla hlb, Option.bind_some, if_neg (by decide), if_neg ha0, hb0]) (hrun hb hn))
  | d + 1, i, h, hf => by
    cases hw : wideV (b.getD i 0) with
    | true =>
      obtain rfl := hyes (wide_at (by omega) hw)
      have h2 : rd b (i : Int) ≥ 4294967296 := of_decide_eq_true hw
      exact Ev.succ (Ev.congr (G := fun _ => some (([] : List S41), (1 : Int))) (fun k => by rw [tallystickref09_Times.l1, if_pos (by omega), if_pos (by omega), if_pos h2]) (Ev.const rfl))
    | false =>
      have h2 : ¬ rd b (i : Int) ≥ 4294967296 := of_decide_eq_false hw
      exact Ev.succ (Ev.congr (G := fun k => tallystickref09_Times.l1 k a b ((i + 1 : Nat) : Int)) (fun k => by rw [tallystickref09_Times.l1, if_pos (by omega), if_pos (by omega), if_neg h2, w_succ i (by omega)]) (times_l1 hlb hla hyes hno hrun d (i + 1) (by omega) (wide_on (by omega) hf hw)))
theorem times_l0 {R : List S41 × Int} (hla : a.length ≤ 1024) (hyes : a.any wideV = true → R = ([], 1)) (hrun : a.any wideV = false → Ev (fun k => tallystickref09_Times.l1 k a b ((0 : Nat) : Int)) R) :
    ∀ d i, i + d = a.length → (a.take i).any wideV = false → Ev (fun k => tallystickref09_Times.l0 k a b (i : Int)) R
  | 0, i, h, hf => by
    have ha : a.any wideV = false := by rwa [List.take_of_length_le (by omega)] at hf
    exact Ev.succ (Ev.congr (G := fun k => tallystickref09_Times.l1 k a b ((0 : Nat) : Int)) (fun k => by rw [tallystickref09_Times.l0, if_neg (by omega)]; rfl) (hrun ha))
  | d + 1, i, h, hf => by
    cases hw : wideV (a.getD i 0) with
    | true =>
      obtain rfl := hyes (wide_at (by omega) hw)
      have h2 : rd a (i : Int) ≥ 4294967296 := of_decide_eq_true hw
      exact Ev.succ (Ev.congr (G := fun _ => some (([] : List S41), (1 : Int))) (fun k => by rw [tallystickref09_Times.l0, if_pos (by omega), if_pos (by omega), if_pos h2]) (Ev.const rfl))
    | false =>
      have h2 : ¬ rd a (i : Int) ≥ 4294967296 := of_decide_eq_false hw
      exact Ev.succ (Ev.congr (G := fun k => tallystickref09_Times.l0 k a b ((i + 1 : Nat) : Int)) (fun k => by rw [tallystickref09_Times.l0, if_pos (by omega), if_pos (by omega), if_neg h2, w_succ i (by omega)]) (times_l0 hla hyes hrun d (i + 1) (by omega) (wide_on (by omega) hf hw)))
/-- The document's exact product is the program's. -/
theorem times_ev (ia : InB W a) (ib : InB W b) (hla : a.length ≤ 1024) (hlb : b.length ≤ 1024) : Ev (fun k => tallystickref09_Times.f k a b) (timesV a b) := by
  have hmain : Ev (fun k => tallystickref09_Times.l0 k a b ((0 : Nat) : Int)) (timesV a b) := by
    refine times_l0 hla (fun h => by unfold timesV; rw [h, Bool.true_or, if_pos rfl]) (fun ha => ?_) a.length 0 (by omega) rfl
    refine times_l1 hlb hla (fun h => by unfold timesV; rw [h, Bool.or_true, if_pos rfl]) (fun hb => ?_) (fun hb hn => ?_) b.length 0 (by omega) rfl
    · unfold timesV
      rw [ha, hb, Bool.or_false, if_neg (by decide)]
      split <;> rfl
    · have h := times_j2 ia ib ha hb hla hlb hn
      unfold timesV
      rw [ha, hb, Bool.or_false, if_neg (by decide), if_neg hn]
      exact h
  exact hmain
end
theorem timesV_length (a b : List Int) (hla : a.length ≤ 1024) (hlb : b.length ≤ 1024) : (timesV a b).1.length ≤ 2048 := by
  unfold timesV
  split
  · simp
  · split
    · simp
    · simp only [List.length_map, List.length_range]
      omega
theorem times_eq {a b : List Int} (ia : InB W a) (ib : InB W b) (hla : a.length ≤ 1024) (hlb : b.length ≤ 1024) : trio_Times.f a b = some (timesV a b) := by
  unfold trio_Times.f
  rw [if_pos ⟨inb_iff.2 ia, inb_iff.2 ib, hla, hlb⟩]
theorem mod_eq {a b : List Int} (m : Int) (ia : InB W a) (ib : InB W b) (hla : a.length ≤ 1024) (hlb : b.length ≤ 1024) : trio_Mod.f a b m = some (modV a b m) := by
  unfold trio_Mod.f
  rw [if_pos ⟨inb_iff.2 ia, inb_iff.2 ib, hla, hlb⟩]
end Go.Proofs.YtaakniobgljniaaDoor.Pure

/- The document's product modulo a prime is the program's, plain. -/
namespace Go.Proofs.YtaakniobgljniaaDoor.Pure
open Go.RowKit Go.Proofs.YtaakniobgljniaaDoor.Pa Go.Proofs.YtaakniobgljniaaDoorW.PrintWords Go.Proofs.YtaakniobgljniaaDoorW.PrintLast Go.Proofs.YtaakniobgljniaaDoor.Hand Go.Proofs.YtaakniobgljniaaDoor.Num
set_option linter.unusedVariables false
set_option linter.unusedSimpArgs false

def mrow (N m : Nat) (f : Nat → Nat) : List Int := (List.range N).map fun t => ((f t % m : Nat) : Int)
theorem mrow_length (N m : Nat) (f : Nat → Nat) : (mrow N m f).length = N := by simp [mrow]
theorem mrow_at {N m : Nat} (f : Nat → Nat) {t : Nat} (ht : t < N) : rd (mrow N m f) (t : Int) = ((f t % m : Nat) : Int) := by
  rw [rd_nat]
  unfold mrow
  rw [List.getD_eq_getElem?_getD, List.getElem?_eq_getElem (by simpa using ht)]
  simp
theorem mrow_set (N m : Nat) (f : Nat → Nat) (n v : Nat) : (mrow N m f).set n ((v % m : Nat) : Int) = mrow N m (fun t => if t = n then v else f t) := by
  refine List.ext_getElem (by simp [mrow]) fun t h1 h2 => ?_
  rw [List.getElem_set]
  simp only [mrow, List.getElem_map, List.getElem_range]
  by_cases h : n = t
  · rw [if_pos h, if_pos h.symm]
  · rw [if_neg h, if_neg (Ne.symm h)]
theorem mrow_zero (N m : Nat) : List.replicate N (0 : Int) = mrow N m (fun _ => 0) := by
  refine List.ext_getElem (by simp [mrow]) fun t h1 h2 => ?_
  simp [mrow]
theorem turn_eq (m x y : Nat) (hm : 0 < m) (hl : m < 2147483648) : tallystickref03_Turn.f (m : Int) (x : Int) (y : Int) = some ((x % m * (y % m) % m : Nat) : Int) := under_is x y m hm hl
theorem place_mod (m c p q : Nat) (hm : 0 < m) (hl : m < 2147483648) :
    Int.tmod (IntKind.u64.wrap (IntKind.u64.wrap ((c % m : Nat) : Int) + ((p % m * (q % m) % m : Nat) : Int))) (m : Int) % 4294967296 = (((c + p * q) % m : Nat) : Int) := by
  have h1 : c % m < m := Nat.mod_lt _ hm
  have h2 : p % m * (q % m) % m < m := Nat.mod_lt _ hm
  have h3 : (c + p * q) % m < m := Nat.mod_lt _ hm
  have e : (c % m + p % m * (q % m) % m) % m = (c + p * q) % m := by rw [← Nat.mul_mod, ← Nat.add_mod]
  rw [u64_mod, Nat.mod_eq_of_lt (by omega), ← Int.natCast_add, u64_mod, Nat.mod_eq_of_lt (by omega)]
  show ((((c % m + p % m * (q % m) % m) % m : Nat) : Int)) % 4294967296 = _
  rw [e]
  omega
section
variable {a b : List Int} {m : Nat}
theorem rd_toNat (ia : InB W a) (i : Nat) : rd a (i : Int) = (((a.getD i 0).toNat : Nat) : Int) := by
  rw [rd_nat, Int.toNat_of_nonneg (getD_pos ia i)]
mutual
theorem mod_l0 (hm : 0 < m) (hl : m < 2147483648) (ia : InB W a) (ib : InB W b) (hla : a.length ≤ 1024) (hlb : b.length ≤ 1024) : ∀ d i, i + d = a.length → Ev (fun k => tallystickref09_Mod.l0 k a b (m : Int) (mrow (a.length + b.length - 1) m (cS a b i)) (i : Int)) (mrow (a.length + b.length - 1) m (cS a b a.length), 0)
  | 0, i, h => by
    obtain rfl : i = a.length := by omega
    exact Ev.succ (Ev.congr (G := fun _ => some (mrow (a.length + b.length - 1) m (cS a b a.length), 0)) (fun k => by rw [tallystickref09_Mod.l0, if_neg (by omega)]) (Ev.const rfl))
  | d + 1, i, h => by
    refine Ev.succ (Ev.congr (G := fun k => tallystickref09_Mod.l1 k a b (m : Int) (mrow (a.length + b.length - 1) m (cSj a b i 0)) (i : Int) ((0 : Nat) : Int)) (fun k => by rw [tallystickref09_Mod.l0, if_pos (by omega), cSj_zero]; rfl) ?_)
    exact mod_l1 hm hl ia ib hla hlb d i h b.length 0 (by omega)
termination_by d _ => (d, 0)
theorem mod_l1 (hm : 0 < m) (hl : m < 2147483648) (ia : InB W a) (ib : InB W b) (hla : a.length ≤ 1024) (hlb : b.length ≤ 1024) (d i : Nat) (h : i + (d + 1) = a.length) : ∀ e j, j + e = b.length → Ev (fun k => tallystickref09_Mod.l1 k a b (m : Int) (mrow (a.length + b.length - 1) m (cSj a b i j)) (i : Int) (j : Int)) (mrow (a.length + b.length - 1) m (cS a b a.length), 0)
  | 0, j, hj => by
    obtain rfl : j = b.length := by omega
    refine Ev.succ (Ev.congr (G := fun k => tallystickref09_Mod.l0 k a b (m : Int) (mrow (a.length + b.length - 1) m (cS a b (i + 1))) ((i + 1 : Nat) : Int)) (fun k => by rw [tallystickref09_Mod.l1, if_neg (by omega), cSj_end, w_succ i (by omega)]) ?_)
    exact mod_l0 hm hl ia ib hla hlb d (i + 1) (by omega)
  | e + 1, j, hj => by
    refine Ev.succ (Ev.congr (G := fun k => tallystickref09_Mod.l1 k a b (m : Int) (mrow (a.length + b.length - 1) m (cSj a b i (j + 1))) (i : Int) ((j + 1 : Nat) : Int)) (fun k => ?_) (mod_l1 hm hl ia ib hla hlb d i h e (j + 1) (by omega)))
    have hat := mrow_at (N := a.length + b.length - 1) (m := m) (cSj a b i j) (t := i + j) (by omega)
    rw [cSj_at] at hat
    have hst := cSj_step a b i j
    rw [cSj_at] at hst
    have wm : IntKind.u64.wrap (m : Int) = (m : Int) := u64_nat m (by omega)
    rw [tallystickref09_Mod.l1, if_pos (by omega), w_sum3 i j (by omega) (by omega), if_pos (by omega), if_pos (by rw [mrow_length]; omega), if_pos (by omega), if_pos (by omega), if_pos (by omega), rd_toNat ia, rd_toNat ib, turn_eq m _ _ hm hl, Option.bind_some, hat, wm, if_neg (by omega),
      place_mod m _ _ _ hm hl, Int.toNat_natCast, mrow_set, hst, w_succ j (by omega)]
termination_by e _ => (d, e + 1)
end
theorem mod_j1 (hm : 0 < m) (hl : m < 2147483648) (ia : InB W a) (ib : InB W b) (hla : a.length ≤ 1024) (hlb : b.length ≤ 1024) (hn : ¬ (a = [] ∨ b = [])) : Ev (fun k => tallystickref09_Mod.j1 k a b (m : Int) false) (mrow (a.length + b.length - 1) m (cS a b a.length), 0) := by
  have ha0 : 0 < a.length := List.length_pos_iff.2 fun e => hn (.inl e)
  have hb0 : 0 < b.length := List.length_pos_iff.2 fun e => hn (.inr e)
  refine Ev.succ (Ev.congr (G := fun k => tallystickref09_Mod.l0 k a b (m : Int) (mrow (a.length + b.length - 1) m (cS a b 0)) ((0 : Nat) : Int)) (fun k => ?_) (mod_l0 hm hl ia ib hla hlb a.length 0 (by omega)))
  rw [tallystickref09_Mod.j1, if_neg (by decide), w_sum3 _ _ (by omega) (by omega), show ((a.length + b.length : Nat) : Int) = ((a.length + b.length - 1 + 1 : Nat) : Int) by omega, w_pred _ (by omega), if_pos (by omega), Int.toNat_natCast, if_pos (by omega), mrow_zero _ m]
  rfl
theorem mod_j0 (hm : 0 < m) (hl : m < 2147483648) (ia : InB W a) (ib : InB W b) (hla : a.length ≤ 1024) (hlb : b.length ≤ 1024) : Ev (fun k => tallystickref09_Mod.j0 k a b (m : Int) false) (if a = [] ∨ b = [] then ([], 0) else (mrow (a.length + b.length - 1) m (cS a b a.length), 0)) := by
  by_cases hn : a = [] ∨ b = []
  · rw [if_pos hn]
    refine Ev.succ (Ev.succ (Ev.congr (G := fun _ => some (([] : List Int), (0 : Int))) (fun k => ?_) (Ev.const rfl)))
    rw [tallystickref09_Mod.j0, if_neg (by decide), long_no hla hlb, Option.bind_some, if_neg (by decide)]
    by_cases ha0 : (a.length : Int) = 0
    · rw [if_pos ha0, tallystickref09_Mod.j1, if_pos rfl]
    · have hb0 : b = [] := by
        rcases hn with e | e
        · exact absurd (by rw [e]; rfl) ha0
        · exact e
      rw [if_neg ha0, hb0, tallystickref09_Mod.j1, if_pos (by rfl)]
  · rw [if_neg hn]
    have ha0 : ¬ (a.length : Int) = 0 := fun e => hn (.inl (List.eq_nil_of_length_eq_zero (by omega)))
    have hb0 : ((b.length : Int) == 0) = false := by
      rw [beq_eq_false_iff_ne]
      exact fun e => hn (.inr (List.eq_nil_of_length_eq_zero (by omega)))
    exact Ev.succ (Ev.congr (G := fun k => tallystickref09_Mod.j1 k a b (m : Int) false) (fun k => by rw [tallystickref09_Mod.j0, if_neg (by decide), long_no hla hlb, Option.bind_some, if_neg (by decide), if_neg ha0, hb0]) (mod_j1 hm hl ia ib hla hlb hn))
end
theorem refmod_ev {a b : List Int} (m : Int) (hm0 : 0 ≤ m) (ia : InB W a) (ib : InB W b) (hla : a.length ≤ 1024) (hlb : b.length ≤ 1024) : Ev (fun k => tallystickref09_Mod.f k a b m) (modV a b m) := by
  obtain ⟨n, rfl⟩ := Int.eq_ofNat_of_zero_le hm0
  by_cases h3 : (n : Int) = 998244353 ∨ (n : Int) = 167772161 ∨ (n : Int) = 469762049
  · have hj := mod_j0 (m := n) (by omega) (by omega) ia ib hla hlb
    have hv : modV a b (n : Int) = if a = [] ∨ b = [] then ([], 0) else (mrow (a.length + b.length - 1) n (cS a b a.length), 0) := by
      unfold modV
      rw [if_pos h3, Int.toNat_natCast]
      rfl
    rw [hv]
    refine Ev.congr (fun k => ?_) hj
    unfold tallystickref09_Mod.f
    by_cases h1 : (n : Int) = 998244353
    · rw [if_pos h1]
    · rw [if_neg h1]
      by_cases h2 : (n : Int) = 167772161
      · rw [if_pos h2]
      · have h4 : (n : Int) = 469762049 := by omega
        rw [if_neg h2, show ((n : Int) != 469762049) = false by rw [h4]; rfl]
  · have hv : modV a b (n : Int) = ([], 1) := by
      unfold modV
      rw [if_neg h3]
    rw [hv]
    refine Ev.succ (Ev.congr (G := fun _ => some (([] : List Int), (1 : Int))) (fun k => ?_) (Ev.const rfl))
    unfold tallystickref09_Mod.f
    have h4 : ((n : Int) != 469762049) = true := by
      rw [bne_iff_ne]
      omega
    rw [if_neg (by omega), if_neg (by omega), h4, tallystickref09_Mod.j0, if_pos rfl]
theorem modV_length (a b : List Int) (m : Int) (hla : a.length ≤ 1024) (hlb : b.length ≤ 1024) : (modV a b m).1.length ≤ 2048 := by
  unfold modV
  split
  · split
    · simp
    · simp only [List.length_map, List.length_range]
      omega
  · simp
end Go.Proofs.YtaakniobgljniaaDoor.Pure

/- Products of rows, plain: in either order, with a 1, of a sum. -/
namespace Go.Proofs.YtaakniobgljniaaDoor.Pure
open Go.RowKit Go.Proofs.YtaakniobgljniaaDoor.Pa Go.Proofs.YtaakniobgljniaaDoorW.PrintWords Go.Proofs.YtaakniobgljniaaDoorW.PrintLast Go.Proofs.YtaakniobgljniaaDoor.Hand Go.Proofs.YtaakniobgljniaaDoor.Num
set_option linter.unusedVariables false
set_option linter.unusedSimpArgs false

/-- A sum of the first n. -/
def sumN : Nat → (Nat → Nat) → Nat
  | 0, _ => 0
  | n + 1, f => sumN n f + f n
theorem sumN_congr : ∀ (n : Nat) {f g : Nat → Nat}, (∀ i, i < n → f i = g i) → sumN n f = sumN n g
  | 0, _, _, _ => rfl
  | n + 1, f, g, h => by
    show sumN n f + f n = sumN n g + g n
    rw [sumN_congr n fun i hi => h i (by omega), h n (by omega)]
theorem sumN_head : ∀ (n : Nat) (f : Nat → Nat), sumN (n + 1) f = f 0 + sumN n (fun i => f (i + 1))
  | 0, f => by simp [sumN]
  | n + 1, f => by
    show sumN (n + 1) f + f (n + 1) = f 0 + (sumN n (fun i => f (i + 1)) + f (n + 1))
    rw [sumN_head n f, Nat.add_assoc]
theorem sumN_rev : ∀ (n : Nat) (f : Nat → Nat), sumN n f = sumN n (fun i => f (n - 1 - i))
  | 0, _ => rfl
  | n + 1, f => by
    rw [sumN_head n (fun i => f (n + 1 - 1 - i))]
    show sumN n f + f n = f (n - 0) + _
    rw [sumN_rev n f, Nat.add_comm, Nat.sub_zero]
    congr 1
    exact sumN_congr n fun i hi => by rw [show n + 1 - 1 - (i + 1) = n - 1 - i by omega]
theorem sumN_cut {f : Nat → Nat} {n : Nat} (h : ∀ p, n ≤ p → f p = 0) : ∀ N, n ≤ N → sumN N f = sumN n f
  | 0, hN => by rw [show n = 0 by omega]
  | N + 1, hN => by
    by_cases e : n = N + 1
    · rw [e]
    · show sumN N f + f N = _
      rw [sumN_cut h N (by omega), h N (by omega), Nat.add_zero]
theorem cS_sum (a b : List Int) (t : Nat) : ∀ i, cS a b i t = sumN i (fun p => if p ≤ t then (a.getD p 0).toNat * (b.getD (t - p) 0).toNat else 0)
  | 0 => rfl
  | i + 1 => by
    show cS a b i t + _ = sumN i _ + _
    rw [cS_sum a b t i]
theorem getD_far {l : List Int} {p : Nat} (h : l.length ≤ p) : l.getD p 0 = 0 := by
  rw [List.getD_eq_getElem?_getD, List.getElem?_eq_none h]
  rfl
theorem cS_conv (a b : List Int) (t : Nat) : cS a b a.length t = sumN (t + 1) (fun p => (a.getD p 0).toNat * (b.getD (t - p) 0).toNat) := by
  rw [cS_sum]
  have h1 : ∀ p, a.length ≤ p → (fun p => if p ≤ t then (a.getD p 0).toNat * (b.getD (t - p) 0).toNat else 0) p = 0 := fun p hp => by
    show (if p ≤ t then _ else 0) = 0
    rw [getD_far hp]
    simp
  have h2 : ∀ p, t + 1 ≤ p → (fun p => if p ≤ t then (a.getD p 0).toNat * (b.getD (t - p) 0).toNat else 0) p = 0 := fun p hp => if_neg (by omega)
  rw [← sumN_cut h1 (max a.length (t + 1)) (by omega), sumN_cut h2 (max a.length (t + 1)) (by omega)]
  exact sumN_congr _ fun i hi => if_pos (by omega)
theorem cS_comm (a b : List Int) (t : Nat) : cS a b a.length t = cS b a b.length t := by
  rw [cS_conv, cS_conv, sumN_rev]
  refine sumN_congr _ fun i hi => ?_
  rw [show t + 1 - 1 - i = t - i by omega, show t - (t - i) = i by omega, Nat.mul_comm]
theorem cS_one (a : List Int) (t : Nat) : cS a [1] a.length t = (a.getD t 0).toNat := by
  rw [cS_comm]
  show 0 + (if 0 ≤ t then (1 : Nat) * (a.getD (t - 0) 0).toNat else 0) = _
  rw [if_pos (Nat.zero_le _), Nat.one_mul, Nat.zero_add, Nat.sub_zero]
theorem cS_add {a b c s : List Int} (h : ∀ j, (s.getD j 0).toNat = (b.getD j 0).toNat + (c.getD j 0).toNat) (t : Nat) : ∀ i, cS a s i t = cS a b i t + cS a c i t
  | 0 => rfl
  | i + 1 => by
    show cS a s i t + (if i ≤ t then (a.getD i 0).toNat * (s.getD (t - i) 0).toNat else 0) = (cS a b i t + (if i ≤ t then (a.getD i 0).toNat * (b.getD (t - i) 0).toNat else 0)) + (cS a c i t + (if i ≤ t then (a.getD i 0).toNat * (c.getD (t - i) 0).toNat else 0))
    rw [cS_add h t i]
    by_cases hi : i ≤ t
    · rw [if_pos hi, if_pos hi, if_pos hi, h, Nat.mul_add]
      omega
    · rw [if_neg hi, if_neg hi, if_neg hi]
      omega
theorem timesV_comm (a b : List Int) : timesV a b = timesV b a := by
  unfold timesV
  rw [Bool.or_comm]
  by_cases h : (b.any wideV || a.any wideV) = true
  · rw [if_pos h, if_pos h]
  · rw [if_neg h, if_neg h]
    by_cases hn : a = [] ∨ b = []
    · rw [if_pos hn, if_pos hn.symm]
    · rw [if_neg hn, if_neg fun e => hn e.symm, Nat.add_comm b.length]
      congr 2
      funext t
      rw [cS_comm]
/-- What is told where no number is wide. -/
theorem timesV_some {a b : List Int} (ha : a.any wideV = false) (hb : b.any wideV = false) : timesV a b = (prow (if a = [] ∨ b = [] then 0 else a.length + b.length - 1) (cS a b a.length), 0) := by
  unfold timesV
  rw [ha, hb, Bool.or_false, if_neg (by decide)]
  by_cases hn : a = [] ∨ b = []
  · rw [if_pos hn, if_pos hn]
    rfl
  · rw [if_neg hn, if_neg hn]
    rfl
theorem timesV_wide {a b : List Int} (h : a.any wideV = true) : timesV a b = ([], 1) := by
  unfold timesV
  rw [h, Bool.true_or, if_pos rfl]
end Go.Proofs.YtaakniobgljniaaDoor.Pure
