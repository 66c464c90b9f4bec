/- Rows of digits, in plain lists: the value of a row (val), the row of a number (dig): what a row in order is. -/
namespace Go.Proofs.YtanjahakoadecaaDoor.Num
/-- The value of a row of digits to the base B, the lowest first. -/
def val (B : Nat) : List Int → Nat
  | [] => 0
  | x :: xs => x.toNat + B * val B xs
/-- A row of digits of a number, none of 0 behind. -/
def dig (B : Nat) (n : Nat) : List Int :=
  if _h : 1 < B ∧ 0 < n then ((n % B : Nat) : Int) :: dig B (n / B) else []
termination_by n
decreasing_by exact Nat.div_lt_self _h.2 _h.1
/-- Each digit is one. -/
def InB (B : Nat) (l : List Int) : Prop := ∀ x, x ∈ l → 0 ≤ x ∧ x < (B : Int)
/-- None of 0 behind. -/
def Ord (l : List Int) : Prop := l = [] ∨ l.getLastD 0 ≠ 0

theorem dig_zero (B : Nat) : dig B 0 = [] := by unfold dig; simp
theorem dig_pos {B n : Nat} (hB : 1 < B) (hn : 0 < n) : dig B n = ((n % B : Nat) : Int) :: dig B (n / B) := by
  rw [dig, dif_pos ⟨hB, hn⟩]
theorem val_dig {B : Nat} (hB : 1 < B) (n : Nat) : val B (dig B n) = n := by
  induction n using Nat.strongRecOn with
  | _ n ih =>
    rcases Nat.eq_zero_or_pos n with h | h
    · subst h; rw [dig_zero]; rfl
    · rw [dig_pos hB h, val, ih _ (Nat.div_lt_self h hB)]
      simp only [Int.toNat_natCast]
      exact Nat.mod_add_div n B
theorem dig_inB {B : Nat} (hB : 1 < B) (n : Nat) : InB B (dig B n) := by
  induction n using Nat.strongRecOn with
  | _ n ih =>
    rcases Nat.eq_zero_or_pos n with h | h
    · subst h; rw [dig_zero]; intro x hx; cases hx
    · rw [dig_pos hB h]
      intro x hx
      rcases List.mem_cons.1 hx with rfl | hx
      · have := Nat.mod_lt n (show 0 < B by omega)
        omega
      · exact ih _ (Nat.div_lt_self h hB) x hx
theorem dig_eq_nil {B n : Nat} (hB : 1 < B) : dig B n = [] ↔ n = 0 := by
  constructor
  · intro h
    have := val_dig hB n
    rw [h] at this
    exact this.symm
  · rintro rfl; exact dig_zero B
theorem dig_ord {B : Nat} (hB : 1 < B) (n : Nat) : Ord (dig B n) := by
  induction n using Nat.strongRecOn with
  | _ n ih =>
    rcases Nat.eq_zero_or_pos n with h | h
    · subst h; rw [dig_zero]; exact .inl rfl
    · rw [dig_pos hB h]
      refine .inr ?_
      rcases ih _ (Nat.div_lt_self h hB) with h1 | h1
      · rw [h1]
        have h2 := (dig_eq_nil hB).1 h1
        have h3 : n < B := by
          rcases Nat.lt_or_ge n B with h3 | h3
          · exact h3
          · have := Nat.div_pos h3 (by omega); omega
        simp only [List.getLastD_cons, List.getLastD_nil]
        rw [Nat.mod_eq_of_lt h3]; omega
      · rcases hd : dig B (n / B) with _ | ⟨y, ys⟩
        · rw [hd] at h1; simp at h1
        · rw [hd] at h1
          simpa using h1
theorem ord_tail {x : Int} {xs : List Int} (h : Ord (x :: xs)) : Ord xs := by
  rcases xs with _ | ⟨y, ys⟩
  · exact .inl rfl
  · rcases h with h | h
    · cases h
    · refine .inr ?_
      simpa using h
theorem val_pos {B : Nat} (hB : 1 < B) : ∀ {l : List Int}, InB B l → Ord l → l ≠ [] → 0 < val B l
  | [], _, _, h => absurd rfl h
  | x :: xs, hi, ho, _ => by
    rcases xs with _ | ⟨y, ys⟩
    · rcases ho with h | h
      · cases h
      · have := hi x (by simp)
        simp at h
        simp [val]; omega
    · have h1 := val_pos hB (l := y :: ys) (fun z hz => hi z (List.mem_cons_of_mem _ hz)) (ord_tail ho) (by simp)
      rw [val]
      have : 0 < B * val B (y :: ys) := Nat.mul_pos (by omega) h1
      omega
/-- A row in order is the row of its value. -/
theorem dig_val {B : Nat} (hB : 1 < B) : ∀ {l : List Int}, InB B l → Ord l → dig B (val B l) = l
  | [], _, _ => by rw [val, dig_zero]
  | x :: xs, hi, ho => by
    have hx := hi x (by simp)
    have hp := val_pos hB hi ho (by simp)
    have ih := dig_val hB (l := xs) (fun z hz => hi z (List.mem_cons_of_mem _ hz)) (ord_tail ho)
    rw [dig_pos hB hp]
    have hm : val B (x :: xs) % B = x.toNat := by
      rw [val, Nat.add_mul_mod_self_left]; exact Nat.mod_eq_of_lt (by omega)
    have hd : val B (x :: xs) / B = val B xs := by
      rw [val, Nat.add_mul_div_left _ _ (by omega), Nat.div_eq_of_lt (by omega)]; omega
    rw [hm, hd, ih]
    congr 1
    omega
theorem val_append (B : Nat) : ∀ (a b : List Int), val B (a ++ b) = val B a + B ^ a.length * val B b
  | [], b => by simp [val]
  | x :: a, b => by
    simp only [List.cons_append, val, val_append B a b, List.length_cons, Nat.pow_succ]
    rw [Nat.mul_add, Nat.add_assoc]
    congr 2
    rw [Nat.mul_comm (B ^ a.length) B, Nat.mul_assoc]
theorem val_lt {B : Nat} (hB : 0 < B) : ∀ {l : List Int}, InB B l → val B l < B ^ l.length
  | [], _ => by simp [val]
  | x :: xs, hi => by
    have hx := hi x (by simp)
    have ih := val_lt hB (l := xs) (fun z hz => hi z (List.mem_cons_of_mem _ hz))
    simp only [val, List.length_cons, Nat.pow_succ]
    have h1 : B * val B xs + B ≤ B * B ^ xs.length := by
      have := Nat.mul_le_mul_left B (show val B xs + 1 ≤ B ^ xs.length from ih)
      rw [Nat.mul_add, Nat.mul_one] at this; exact this
    rw [Nat.mul_comm (B ^ xs.length) B]
    omega
theorem inB_append {B : Nat} {a b : List Int} : InB B (a ++ b) ↔ InB B a ∧ InB B b := by
  constructor
  · intro h; exact ⟨fun x hx => h x (by simp [hx]), fun x hx => h x (by simp [hx])⟩
  · rintro ⟨h, k⟩ x hx
    rcases List.mem_append.1 hx with hx | hx
    · exact h x hx
    · exact k x hx
theorem inB_nil (B : Nat) : InB B [] := fun x hx => by cases hx
theorem inB_cons {B : Nat} {x : Int} {l : List Int} : InB B (x :: l) ↔ (0 ≤ x ∧ x < (B : Int)) ∧ InB B l := by
  constructor
  · intro h; exact ⟨h x (by simp), fun y hy => h y (by simp [hy])⟩
  · rintro ⟨h, k⟩ y hy
    rcases List.mem_cons.1 hy with rfl | hy
    · exact h
    · exact k y hy
theorem dig_length_le {B : Nat} (hB : 1 < B) {n k : Nat} (h : n < B ^ k) : (dig B n).length ≤ k := by
  induction k generalizing n with
  | zero => have : n = 0 := by simpa using h
            subst this; rw [dig_zero]; simp
  | succ k ih =>
    rcases Nat.eq_zero_or_pos n with h0 | h0
    · subst h0; rw [dig_zero]; simp
    · rw [dig_pos hB h0]
      have := ih (n := n / B) (by rw [Nat.pow_succ] at h; exact Nat.div_lt_of_lt_mul (by rw [Nat.mul_comm]; exact h))
      simp; exact this
theorem dig_of {B : Nat} (hB : 1 < B) {l : List Int} {n : Nat} (hi : InB B l) (ho : Ord l) (hv : val B l = n) : l = dig B n := by rw [← hv, dig_val hB hi ho]
theorem val_take_succ (B : Nat) : ∀ (l : List Int) (k : Nat), val B (l.take (k + 1)) = val B (l.take k) + B ^ k * (l.getD k 0).toNat
  | [], k => by simp [val]
  | x :: l, 0 => by simp [val]
  | x :: l, k + 1 => by
    have ih := val_take_succ B l k
    simp only [List.take_succ_cons, val, ih, List.getD_cons_succ, Nat.pow_succ, Nat.mul_add]
    rw [Nat.mul_comm (B ^ k) B, Nat.mul_assoc, Nat.add_assoc]
theorem inB_take {B : Nat} {l : List Int} (h : InB B l) (k : Nat) : InB B (l.take k) := fun x hx => h x (List.mem_of_mem_take hx)
theorem val_take_drop (B : Nat) (l : List Int) (k : Nat) (hk : k ≤ l.length) : val B l = val B (l.take k) + B ^ k * val B (l.drop k) := by
  have := val_append B (l.take k) (l.drop k)
  rw [List.take_append_drop, List.length_take, Nat.min_eq_left hk] at this
  exact this
theorem val_take_mod {B : Nat} (hB : 0 < B) {l : List Int} (h : InB B l) (k : Nat) (hk : k ≤ l.length) : val B (l.take k) = val B l % B ^ k := by
  have h1 := val_lt hB (inB_take h k)
  rw [List.length_take, Nat.min_eq_left hk] at h1
  rw [val_take_drop B l k hk, Nat.add_mul_mod_self_left, Nat.mod_eq_of_lt h1]
theorem val_drop_div {B : Nat} (hB : 0 < B) {l : List Int} (h : InB B l) (k : Nat) (hk : k ≤ l.length) : val B (l.drop k) = val B l / B ^ k := by
  have h1 := val_lt hB (inB_take h k)
  rw [List.length_take, Nat.min_eq_left hk] at h1
  rw [val_take_drop B l k hk, Nat.add_mul_div_left _ _ (Nat.pow_pos hB), Nat.div_eq_of_lt h1, Nat.zero_add]
/-- What Norm leaves of a row. -/
theorem take_norm {B : Nat} {l : List Int} {n : Nat} (hn : n ≤ l.length) (h0 : n = 0 ∨ l.getD (n - 1) 0 ≠ 0) (hz : ∀ j, n ≤ j → l.getD j 0 = 0) : Ord (l.take n) ∧ val B (l.take n) = val B l := by
  constructor
  · rcases Nat.eq_zero_or_pos n with h | h
    · subst h; exact .inl (by simp)
    · rcases h0 with h0 | h0
      · omega
      · refine .inr ?_
        rw [List.getLastD_eq_getLast?, List.getLast?_eq_getElem?, List.length_take, Nat.min_eq_left hn, List.getElem?_take, if_pos (by omega)]
        rwa [List.getD_eq_getElem?_getD] at h0
  · have hd : ∀ (m : List Int), (∀ j, m.getD j 0 = 0) → val B m = 0 := by
      intro m
      induction m with
      | nil => intro _; rfl
      | cons x m ih =>
        intro h
        have hx := h 0
        rw [List.getD_cons_zero] at hx
        rw [val, ih (fun j => by have := h (j + 1); rwa [List.getD_cons_succ] at this), hx]; rfl
    rw [val_take_drop B l n hn, hd (l.drop n) (fun j => by
      have := hz (n + j) (by omega)
      rw [List.getD_eq_getElem?_getD] at this ⊢
      rwa [List.getElem?_drop]), Nat.mul_zero, Nat.add_zero]
/-- 2^64, under a name. -/
def W : Nat := 18446744073709551616
theorem W_eq : W = 18446744073709551616 := rfl
theorem W_gt : 1 < W := by decide
theorem W_pos : 0 < W := by decide
/-- Are they words? -/
def inb (l : List Int) : Bool := l.all fun x => decide (0 ≤ x) && decide (x < 18446744073709551616)
theorem inb_iff {l : List Int} : inb l = true ↔ InB W l := by
  simp only [inb, List.all_eq_true, Bool.and_eq_true, decide_eq_true_eq, InB, W_eq]
  rfl
/-- How long a row may be. -/
def LIM : Nat := 17592186044400
end Go.Proofs.YtanjahakoadecaaDoor.Num

