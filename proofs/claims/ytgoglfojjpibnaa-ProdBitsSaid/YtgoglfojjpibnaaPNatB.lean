/- The document's functions for nat, in plain numbers: rows of digits to the base 2^16 are rows of numbers; fuel: from some number of rounds on. -/
import Derived.Test.YtgoglfojjpibnaaPNatA
namespace Go.Proofs.Ytgoglfojjpibnaa.Pure
open Go.RowKit Go.Proofs.Ytgoglfojjpibnaa.Pa Go.Proofs.YtgoglfojjpibnaaW.PrintWords Go.Proofs.YtgoglfojjpibnaaW.PrintLast Go.Proofs.Ytgoglfojjpibnaa.Hand Go.Proofs.Ytgoglfojjpibnaa.Num
set_option linter.unusedVariables false
set_option linter.unusedSimpArgs false

/-- 2^16, under a name. -/
def V : Nat := 65536
theorem V_eq : V = 65536 := rfl
theorem V_gt : 1 < V := by decide
theorem V_pos : 0 < V := by decide
theorem V_four : V ^ 4 = W := by decide +kernel
theorem V_pow (k : Nat) : V ^ k = 2 ^ (16 * k) := by rw [Nat.pow_mul]; rfl
/-- With enough rounds the answer is r. -/
def Ev {α : Type} (F : Nat → Option α) (r : α) : Prop := ∃ K, ∀ k, K ≤ k → F k = some r
theorem Ev.succ {α : Type} {F : Nat → Option α} {r : α} (h : Ev (fun k => F (k + 1)) r) : Ev F r := by
  obtain ⟨K, hK⟩ := h
  refine ⟨K + 1, fun k hk => ?_⟩
  obtain ⟨j, rfl⟩ : ∃ j, k = j + 1 := ⟨k - 1, by omega⟩
  exact hK j (by omega)
theorem Ev.const {α : Type} {x : Option α} {r : α} (h : x = some r) : Ev (fun _ => x) r := ⟨0, fun _ _ => h⟩
theorem Ev.congr {α : Type} {F G : Nat → Option α} {r : α} (h : ∀ k, F k = G k) (hg : Ev G r) : Ev F r := by
  obtain ⟨K, hK⟩ := hg
  exact ⟨K, fun k hk => (h k).trans (hK k hk)⟩
theorem Ev.bind {α β : Type} {f : Nat → Option α} {g : Nat → α → Option β} {a : α} {r : β} (h : Ev f a) (h2 : Ev (fun k => g k a) r) : Ev (fun k => (f k).bind (g k)) r := by
  obtain ⟨K, hK⟩ := h
  obtain ⟨K2, hK2⟩ := h2
  refine ⟨max K K2, fun k hk => ?_⟩
  show (f k).bind (g k) = some r
  rw [hK k (by omega), Option.bind_some]
  exact hK2 k (by omega)
theorem Ev.get {α : Type} {F : Nat → Option α} {r : α} (h : Ev F r) : ∃ k, F k = some r := by
  obtain ⟨K, hK⟩ := h
  exact ⟨K, hK K (Nat.le_refl _)⟩
theorem rd_nat (l : List Int) (k : Nat) : rd l (k : Int) = l.getD k 0 := rfl
theorem w_pred (n : Nat) (h : n ≤ 17592186044416) : wrap64 (((n + 1 : Nat) : Int) - 1) = (n : Int) := by rw [IntWalk.wrap64_in _ (by omega)]; omega
theorem w_succ (n : Nat) (h : n ≤ 17592186044416) : wrap64 ((n : Int) + 1) = ((n + 1 : Nat) : Int) := IntWalk.wrap64_in _ (by omega)

/-! ### Trim -/
theorem trim_end {l : List Int} (hi : InB V l) (hl : l.length ≤ 17592186044400) (n : Nat) (hn : n ≤ l.length) (h0 : n = 0 ∨ l.getD (n - 1) 0 ≠ 0) (hz : ∀ j, n ≤ j → l.getD j 0 = 0) :
    (if 0 ≤ (n : Int) then (if (n : Int) ≤ (l.length : Int) then (if ([] : List Int).length + (l.take ((n : Int)).toNat).length < 17592186044416 then (some ([] ++ (l.take ((n : Int)).toNat))) else (none)) else (none)) else (none)) = some (dig V (val V l)) := by
  obtain ⟨ho, hv⟩ := take_norm (B := V) hn h0 hz
  have e := dig_of V_gt (inB_take hi n) ho hv
  rw [if_pos (by omega), if_pos (by omega), Int.toNat_natCast, if_pos (by simp; omega), List.nil_append, e]
theorem trim_loop {l : List Int} (hi : InB V l) (hl : l.length ≤ 17592186044400) : ∀ n, n ≤ l.length → (∀ j, n ≤ j → l.getD j 0 = 0) → Ev (fun k => tallystickref04_Trim.l0 k l (n : Int)) (dig V (val V l))
  | 0, hn, hz => Ev.succ (Ev.congr (G := fun _ => some (dig V (val V l))) (fun k => by
      rw [tallystickref04_Trim.l0, if_neg (by decide), Option.bind_some]
      exact trim_end hi hl 0 hn (.inl rfl) hz) (Ev.const rfl))
  | n + 1, hn, hz => by
    refine Ev.succ (Ev.congr (G := fun k => if rd l (n : Int) = 0 then tallystickref04_Trim.l0 k l (n : Int) else some (dig V (val V l))) (fun k => ?_) ?_)
    · rw [tallystickref04_Trim.l0, if_pos (by omega), w_pred n (by omega), if_pos (by omega), if_pos (by omega)]
      by_cases h : rd l (n : Int) = 0
      · rw [if_pos h, if_pos h]
      · rw [if_neg h, if_neg h, Option.bind_some]
        exact trim_end hi hl (n + 1) hn (.inr h) hz
    · by_cases h : rd l (n : Int) = 0
      · refine Ev.congr (G := fun k => tallystickref04_Trim.l0 k l (n : Int)) (fun k => if_pos h) ?_
        exact trim_loop hi hl n (by omega) fun j hj => by
          rcases Nat.lt_or_ge n j with h1 | h1
          · exact hz j h1
          · obtain rfl : j = n := by omega
            exact h
      · exact Ev.congr (G := fun _ => some (dig V (val V l))) (fun k => if_neg h) (Ev.const rfl)
theorem trim_ev {l : List Int} (hi : InB V l) (hl : l.length ≤ 17592186044400) : Ev (fun k => tallystickref04_Trim.f k l) (dig V (val V l)) :=
  trim_loop hi hl l.length (Nat.le_refl _) fun j hj => by rw [List.getD_eq_getElem?_getD, List.getElem?_eq_none hj]; rfl

/-! ### Digits -/
def dg : Nat → Nat → List Int
  | 0, _ => []
  | d + 1, w => ((w % 65536 : Nat) : Int) :: dg d (w / 65536)
theorem dg_length : ∀ d w, (dg d w).length = d
  | 0, _ => rfl
  | d + 1, w => by simp [dg, dg_length d]
theorem dg_inB : ∀ d w, InB V (dg d w)
  | 0, _ => inB_nil _
  | d + 1, w => inB_cons.2 ⟨by have := V_eq; omega, dg_inB d _⟩
theorem dg_val : ∀ d w, val V (dg d w) = w % V ^ d
  | 0, w => by simp [dg, val, Nat.mod_one]
  | d + 1, w => by
    rw [dg, val, dg_val d, Int.toNat_natCast, Nat.pow_succ, Nat.mul_comm (V ^ d) V, Nat.mod_mul]
    rfl
theorem digits_inner {a : List Int} {i : Int} {r : List Int} : ∀ (d j : Nat) (out : List Int) (w : Nat), j + d = 4 → out.length + d < 17592186044416 → w < 18446744073709551616 → Ev (fun k => tallystickref04_Digits.l0 k a (out ++ dg d w) (wrap64 (i + 1))) r →
    Ev (fun k => tallystickref04_Digits.l1 k a out i (w : Int) (j : Int)) r
  | 0, j, out, w, hj, _, _, h => by
    obtain rfl : j = 4 := by omega
    refine Ev.succ (Ev.congr (fun k => ?_) h)
    rw [tallystickref04_Digits.l1, if_neg (by decide)]
    simp [dg]
  | d + 1, j, out, w, hj, ho, hw, h => by
    have e1 : wrap64 (Int.tmod (w : Int) 65536) = ((w % 65536 : Nat) : Int) := IntWalk.wrap64_in ((w % 65536 : Nat) : Int) (by omega)
    have e2 : IntKind.u64.wrap (Int.tdiv (w : Int) 65536) = ((w / 65536 : Nat) : Int) := by
      rw [show Int.tdiv (w : Int) 65536 = ((w / 65536 : Nat) : Int) from rfl, IntKind.wrap_u64]; omega
    refine Ev.succ (Ev.congr (fun k => ?_) (digits_inner d (j + 1) (out ++ [((w % 65536 : Nat) : Int)]) (w / 65536) (by omega) (by simp; omega) (by omega) (by simpa [dg] using h)))
    rw [tallystickref04_Digits.l1, if_pos (by omega), if_pos (by omega), e1, e2, w_succ j (by omega)]
theorem digits_loop {a : List Int} (ha : InB W a) (hl : a.length ≤ 1000000) : ∀ (d i : Nat) (out : List Int), i + d = a.length → InB V out → out.length = 4 * i → val V out = val W (a.take i) → Ev (fun k => tallystickref04_Digits.l0 k a out (i : Int)) (dig V (val W a))
  | 0, i, out, hi, h1, h2, h3 => by
    obtain rfl : i = a.length := by omega
    rw [List.take_length] at h3
    rw [← h3]
    refine Ev.succ (Ev.congr (G := fun k => (tallystickref04_Trim.f k out).bind fun t => some t) (fun k => ?_) (Ev.bind (trim_ev h1 (by omega)) (Ev.const rfl)))
    rw [tallystickref04_Digits.l0, if_neg (by omega)]
  | d + 1, i, out, hi, h1, h2, h3 => by
    have hw : Wd (a.getD i 0) := inB_getD W_pos ha i
    obtain ⟨w, hwe⟩ := Int.eq_ofNat_of_zero_le hw.1
    have hw2 : w < 18446744073709551616 := by have := hw.2; omega
    have hs := val_take_succ W a i
    rw [hwe, Int.toNat_natCast] at hs
    have hp : V ^ (4 * i) = W ^ i := by rw [Nat.pow_mul, V_four]
    refine Ev.succ (Ev.congr (G := fun k => tallystickref04_Digits.l1 k a out (i : Int) (w : Int) ((0 : Nat) : Int)) (fun k => ?_) (digits_inner 4 0 out w (by omega) (by omega) hw2 ?_))
    · rw [tallystickref04_Digits.l0, if_pos (by omega), if_pos (by omega), rd_nat, hwe]; rfl
    · rw [w_succ i (by omega)]
      exact digits_loop ha hl d (i + 1) _ (by omega) (inB_append.2 ⟨h1, dg_inB _ _⟩) (by rw [List.length_append, h2, dg_length]; omega) (by rw [val_append, h2, hp, dg_val, V_four, Nat.mod_eq_of_lt (show w < W from hw2), h3, hs])
theorem digits_ev {a : List Int} (ha : InB W a) (hl : a.length ≤ 1000000) : Ev (fun k => tallystickref04_Digits.f k a) (dig V (val W a)) :=
  digits_loop ha hl a.length 0 [] (by omega) (inB_nil _) rfl rfl
end Go.Proofs.Ytgoglfojjpibnaa.Pure
