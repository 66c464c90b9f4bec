/- Texts joined into one: each with its own sentence of what is proved, and under which conditions. -/
import Derived.Test.YtcgcffnhlafneaaProg
import Derived.Test.YtcgcffnhlafneaaWMore
import Derived.WalkKit
import Derived.KernelRfl
import Derived.Handy
import Derived.Laws.Externs
import Derived.Lib.Mul64
import Derived.Laws.Bits64b
import Derived.Shelf.Spec.BitsCarry
import Derived.Shelf.Bits.Mul64
import Derived.Laws.BitsLemmas
import Derived.LoopTactic
/- Rows of digits, in plain lists: the value of a row (val), the row of a number (dig): what a row in order is. -/
namespace Go.Proofs.Ytcgcffnhlafneaa.Num
/-- The value of a row of digits to the base B, the lowest first. -/
def val (B : Nat) : List Int → Nat
  | [] => 0
  | x :: xs => x.toNat + B * val B xs
/-- A row of digits of a number, none of 0 behind. -/
def dig (B : Nat) (n : Nat) : List Int :=
  if _h : 1 < B ∧ 0 < n then ((n % B : Nat) : Int) :: dig B (n / B) else []
termination_by n
decreasing_by exact Nat.div_lt_self _h.2 _h.1
/-- Each digit is one. -/
def InB (B : Nat) (l : List Int) : Prop := ∀ x, x ∈ l → 0 ≤ x ∧ x < (B : Int)
/-- None of 0 behind. -/
def Ord (l : List Int) : Prop := l = [] ∨ l.getLastD 0 ≠ 0

theorem dig_zero (B : Nat) : dig B 0 = [] := by unfold dig; simp
theorem dig_pos {B n : Nat} (hB : 1 < B) (hn : 0 < n) : dig B n = ((n % B : Nat) : Int) :: dig B (n / B) := by
  rw [dig, dif_pos ⟨hB, hn⟩]
theorem val_dig {B : Nat} (hB : 1 < B) (n : Nat) : val B (dig B n) = n := by
  induction n using Nat.strongRecOn with
  | _ n ih =>
    rcases Nat.eq_zero_or_pos n with h | h
    · subst h; rw [dig_zero]; rfl
    · rw [dig_pos hB h, val, ih _ (Nat.div_lt_self h hB)]
      simp only [Int.toNat_natCast]
      exact Nat.mod_add_div n B
theorem dig_inB {B : Nat} (hB : 1 < B) (n : Nat) : InB B (dig B n) := by
  induction n using Nat.strongRecOn with
  | _ n ih =>
    rcases Nat.eq_zero_or_pos n with h | h
    · subst h; rw [dig_zero]; intro x hx; cases hx
    · rw [dig_pos hB h]
      intro x hx
      rcases List.mem_cons.1 hx with rfl | hx
      · have := Nat.mod_lt n (show 0 < B by omega)
        omega
      · exact ih _ (Nat.div_lt_self h hB) x hx
theorem dig_eq_nil {B n : Nat} (hB : 1 < B) : dig B n = [] ↔ n = 0 := by
  constructor
  · intro h
    have := val_dig hB n
    rw [h] at this
    exact this.symm
  · rintro rfl; exact dig_zero B
theorem dig_ord {B : Nat} (hB : 1 < B) (n : Nat) : Ord (dig B n) := by
  induction n using Nat.strongRecOn with
  | _ n ih =>
    rcases Nat.eq_zero_or_pos n with h | h
    · subst h; rw [dig_zero]; exact .inl rfl
    · rw [dig_pos hB h]
      refine .inr ?_
      rcases ih _ (Nat.div_lt_self h hB) with h1 | h1
      · rw [h1]
        have h2 := (dig_eq_nil hB).1 h1
        have h3 : n < B := by
          rcases Nat.lt_or_ge n B with h3 | h3
          · exact h3
          · have := Nat.div_pos h3 (by omega); omega
        simp only [List.getLastD_cons, List.getLastD_nil]
        rw [Nat.mod_eq_of_lt h3]; omega
      · rcases hd : dig B (n / B) with _ | ⟨y, ys⟩
        · rw [hd] at h1; simp at h1
        · rw [hd] at h1
          simpa using h1
theorem ord_tail {x : Int} {xs : List Int} (h : Ord (x :: xs)) : Ord xs := by
  rcases xs with _ | ⟨y, ys⟩
  · exact .inl rfl
  · rcases h with h | h
    · cases h
    · refine .inr ?_
      simpa using h
theorem val_pos {B : Nat} (hB : 1 < B) : ∀ {l : List Int}, InB B l → Ord l → l ≠ [] → 0 < val B l
  | [], _, _, h => absurd rfl h
  | x :: xs, hi, ho, _ => by
    rcases xs with _ | ⟨y, ys⟩
    · rcases ho with h | h
      · cases h
      · have := hi x (by simp)
        simp at h
        simp [val]; omega
    · have h1 := val_pos hB (l := y :: ys) (fun z hz => hi z (List.mem_cons_of_mem _ hz)) (ord_tail ho) (by simp)
      rw [val]
      have : 0 < B * val B (y :: ys) := Nat.mul_pos (by omega) h1
      omega
/-- A row in order is the row of its value. -/
theorem dig_val {B : Nat} (hB : 1 < B) : ∀ {l : List Int}, InB B l → Ord l → dig B (val B l) = l
  | [], _, _ => by rw [val, dig_zero]
  | x :: xs, hi, ho => by
    have hx := hi x (by simp)
    have hp := val_pos hB hi ho (by simp)
    have ih := dig_val hB (l := xs) (fun z hz => hi z (List.mem_cons_of_mem _ hz)) (ord_tail ho)
    rw [dig_pos hB hp]
    have hm : val B (x :: xs) % B = x.toNat := by
      rw [val, Nat.add_mul_mod_self_left]; exact Nat.mod_eq_of_lt (by omega)
    have hd : val B (x :: xs) / B = val B xs := by
      rw [val, Nat.add_mul_div_left _ _ (by omega), Nat.div_eq_of_lt (by omega)]; omega
    rw [hm, hd, ih]
    congr 1
    omega
theorem val_append (B : Nat) : ∀ (a b : List Int), val B (a ++ b) = val B a + B ^ a.length * val B b
  | [], b => by simp [val]
  | x :: a, b => by
    simp only [List.cons_append, val, val_append B a b, List.length_cons, Nat.pow_succ]
    rw [Nat.mul_add, Nat.add_assoc]
    congr 2
    rw [Nat.mul_comm (B ^ a.length) B, Nat.mul_assoc]
theorem val_lt {B : Nat} (hB : 0 < B) : ∀ {l : List Int}, InB B l → val B l < B ^ l.length
  | [], _ => by simp [val]
  | x :: xs, hi => by
    have hx := hi x (by simp)
    have ih := val_lt hB (l := xs) (fun z hz => hi z (List.mem_cons_of_mem _ hz))
    simp only [val, List.length_cons, Nat.pow_succ]
    have h1 : B * val B xs + B ≤ B * B ^ xs.length := by
      have := Nat.mul_le_mul_left B (show val B xs + 1 ≤ B ^ xs.length from ih)
      rw [Nat.mul_add, Nat.mul_one] at this; exact this
    rw [Nat.mul_comm (B ^ xs.length) B]
    omega
theorem val_replicate (B : Nat) : ∀ n, val B (List.replicate n 0) = 0
  | 0 => rfl
  | n + 1 => by simp [List.replicate_succ, val, val_replicate B n]
theorem inB_append {B : Nat} {a b : List Int} : InB B (a ++ b) ↔ InB B a ∧ InB B b := by
  constructor
  · intro h; exact ⟨fun x hx => h x (by simp [hx]), fun x hx => h x (by simp [hx])⟩
  · rintro ⟨h, k⟩ x hx
    rcases List.mem_append.1 hx with hx | hx
    · exact h x hx
    · exact k x hx
theorem inB_nil (B : Nat) : InB B [] := fun x hx => by cases hx
theorem inB_cons {B : Nat} {x : Int} {l : List Int} : InB B (x :: l) ↔ (0 ≤ x ∧ x < (B : Int)) ∧ InB B l := by
  constructor
  · intro h; exact ⟨h x (by simp), fun y hy => h y (by simp [hy])⟩
  · rintro ⟨h, k⟩ y hy
    rcases List.mem_cons.1 hy with rfl | hy
    · exact h
    · exact k y hy
theorem dig_length_le {B : Nat} (hB : 1 < B) {n k : Nat} (h : n < B ^ k) : (dig B n).length ≤ k := by
  induction k generalizing n with
  | zero => have : n = 0 := by simpa using h
            subst this; rw [dig_zero]; simp
  | succ k ih =>
    rcases Nat.eq_zero_or_pos n with h0 | h0
    · subst h0; rw [dig_zero]; simp
    · rw [dig_pos hB h0]
      have := ih (n := n / B) (by rw [Nat.pow_succ] at h; exact Nat.div_lt_of_lt_mul (by rw [Nat.mul_comm]; exact h))
      simp; exact this
theorem dig_length_lt {B : Nat} (hB : 1 < B) {n k : Nat} (h : B ^ k ≤ n) : k < (dig B n).length := by
  rcases Nat.lt_or_ge k (dig B n).length with h1 | h1
  · exact h1
  · have h2 := val_lt (B := B) (by omega) (dig_inB hB n)
    rw [val_dig hB] at h2
    have h3 : B ^ (dig B n).length ≤ B ^ k := Nat.pow_le_pow_right (by omega) h1
    omega

theorem dig_of {B : Nat} (hB : 1 < B) {l : List Int} {n : Nat} (hi : InB B l) (ho : Ord l) (hv : val B l = n) : l = dig B n := by rw [← hv, dig_val hB hi ho]
theorem val_take_succ (B : Nat) : ∀ (l : List Int) (k : Nat), val B (l.take (k + 1)) = val B (l.take k) + B ^ k * (l.getD k 0).toNat
  | [], k => by simp [val]
  | x :: l, 0 => by simp [val]
  | x :: l, k + 1 => by
    have ih := val_take_succ B l k
    simp only [List.take_succ_cons, val, ih, List.getD_cons_succ, Nat.pow_succ, Nat.mul_add]
    rw [Nat.mul_comm (B ^ k) B, Nat.mul_assoc, Nat.add_assoc]
theorem inB_take {B : Nat} {l : List Int} (h : InB B l) (k : Nat) : InB B (l.take k) := fun x hx => h x (List.mem_of_mem_take hx)
theorem inB_drop {B : Nat} {l : List Int} (h : InB B l) (k : Nat) : InB B (l.drop k) := fun x hx => h x (List.mem_of_mem_drop hx)
theorem inB_getD {B : Nat} (hB : 0 < B) {l : List Int} (h : InB B l) (k : Nat) : 0 ≤ l.getD k 0 ∧ l.getD k 0 < (B : Int) := by
  rw [List.getD_eq_getElem?_getD]
  rcases hk : l[k]? with _ | x
  · simp; omega
  · exact h x (List.mem_of_getElem? hk)
theorem inB_replicate {B : Nat} (hB : 0 < B) (n : Nat) : InB B (List.replicate n 0) := fun x hx => by
  obtain ⟨_, rfl⟩ := List.mem_replicate.1 hx; omega
theorem inB_set {B : Nat} {l : List Int} (h : InB B l) (k : Nat) {x : Int} (hx : 0 ≤ x ∧ x < (B : Int)) : InB B (l.set k x) := fun y hy => by
  rcases List.mem_or_eq_of_mem_set hy with h1 | rfl
  · exact h y h1
  · exact hx
theorem val_set (B : Nat) : ∀ (l : List Int) (k : Nat) (x : Int), k < l.length → val B (l.set k x) + B ^ k * (l.getD k 0).toNat = val B l + B ^ k * x.toNat
  | y :: l, 0, x, _ => by simp [val]; omega
  | y :: l, k + 1, x, h => by
    have ih := val_set B l k x (by simpa using h)
    simp only [List.set_cons_succ, val, List.getD_cons_succ, Nat.pow_succ]
    have e1 : B ^ k * B * (l.getD k 0).toNat = B * (B ^ k * (l.getD k 0).toNat) := by rw [Nat.mul_comm (B ^ k) B, Nat.mul_assoc]
    have e2 : B ^ k * B * x.toNat = B * (B ^ k * x.toNat) := by rw [Nat.mul_comm (B ^ k) B, Nat.mul_assoc]
    rw [e1, e2]
    have := congrArg (B * ·) ih
    simp only [Nat.mul_add] at this
    omega
theorem val_take_drop (B : Nat) (l : List Int) (k : Nat) (hk : k ≤ l.length) : val B l = val B (l.take k) + B ^ k * val B (l.drop k) := by
  have := val_append B (l.take k) (l.drop k)
  rw [List.take_append_drop, List.length_take, Nat.min_eq_left hk] at this
  exact this
theorem val_take_mod {B : Nat} (hB : 0 < B) {l : List Int} (h : InB B l) (k : Nat) (hk : k ≤ l.length) : val B (l.take k) = val B l % B ^ k := by
  have h1 := val_lt hB (inB_take h k)
  rw [List.length_take, Nat.min_eq_left hk] at h1
  rw [val_take_drop B l k hk, Nat.add_mul_mod_self_left, Nat.mod_eq_of_lt h1]
theorem val_drop_div {B : Nat} (hB : 0 < B) {l : List Int} (h : InB B l) (k : Nat) (hk : k ≤ l.length) : val B (l.drop k) = val B l / B ^ k := by
  have h1 := val_lt hB (inB_take h k)
  rw [List.length_take, Nat.min_eq_left hk] at h1
  rw [val_take_drop B l k hk, Nat.add_mul_div_left _ _ (Nat.pow_pos hB), Nat.div_eq_of_lt h1, Nat.zero_add]
/-- What Norm leaves of a row. -/
theorem take_norm {B : Nat} {l : List Int} {n : Nat} (hn : n ≤ l.length) (h0 : n = 0 ∨ l.getD (n - 1) 0 ≠ 0) (hz : ∀ j, n ≤ j → l.getD j 0 = 0) : Ord (l.take n) ∧ val B (l.take n) = val B l := by
  constructor
  · rcases Nat.eq_zero_or_pos n with h | h
    · subst h; exact .inl (by simp)
    · rcases h0 with h0 | h0
      · omega
      · refine .inr ?_
        rw [List.getLastD_eq_getLast?, List.getLast?_eq_getElem?, List.length_take, Nat.min_eq_left hn, List.getElem?_take, if_pos (by omega)]
        rwa [List.getD_eq_getElem?_getD] at h0
  · have hd : ∀ (m : List Int), (∀ j, m.getD j 0 = 0) → val B m = 0 := by
      intro m
      induction m with
      | nil => intro _; rfl
      | cons x m ih =>
        intro h
        have hx := h 0
        rw [List.getD_cons_zero] at hx
        rw [val, ih (fun j => by have := h (j + 1); rwa [List.getD_cons_succ] at this), hx]; rfl
    rw [val_take_drop B l n hn, hd (l.drop n) (fun j => by
      have := hz (n + j) (by omega)
      rw [List.getD_eq_getElem?_getD] at this ⊢
      rwa [List.getElem?_drop]), Nat.mul_zero, Nat.add_zero]
/-- 2^64, under a name. -/
def W : Nat := 18446744073709551616
theorem W_eq : W = 18446744073709551616 := rfl
theorem W_gt : 1 < W := by decide
theorem W_pos : 0 < W := by decide
/-- Are they words? -/
def inb (l : List Int) : Bool := l.all fun x => decide (0 ≤ x) && decide (x < 18446744073709551616)
theorem inb_iff {l : List Int} : inb l = true ↔ InB W l := by
  simp only [inb, List.all_eq_true, Bool.and_eq_true, decide_eq_true_eq, InB, W_eq]
  rfl
/-- How long a row may be. -/
def LIM : Nat := 17592186044400
end Go.Proofs.Ytcgcffnhlafneaa.Num

/- word.Add, word.Sub, word.Mul by hand, over the model's own words for bits.Add64, bits.Sub64 and Go's text of bits.Mul64: what each answers; the world is as it was. Conditions: the arguments are words of 64 bits. -/
namespace Go.Proofs.Ytcgcffnhlafneaa.Hand
open Go.Proofs Go.RowKit Go.Lib Go.Proofs.YtcgcffnhlafneaaW.PrintWords Go.Proofs.YtcgcffnhlafneaaW.PrintMore Go.Proofs.Ytcgcffnhlafneaa.Num
attribute [local go_sem] max2_int min2_int max_two min_two

/-- A sum's word, and what is carried. -/
def sumLo (a b c : Int) : Int := (a + b + c) % 18446744073709551616
def sumHi (a b c : Int) : Int := (a + b + c) / 18446744073709551616
/-- A difference's word, and what is borrowed. -/
def subLo (a b c : Int) : Int := (a - b - c) % 18446744073709551616
def subHi (a b c : Int) : Int := if a < b + c then 1 else 0
/-- A product's words. -/
def mulHi (a b : Int) : Int := a * b / 18446744073709551616
def mulLo (a b : Int) : Int := a * b % 18446744073709551616
/-- Is it a word? -/
def Wd (a : Int) : Prop := 0 ≤ a ∧ a < 18446744073709551616
theorem sumLo_wd (a b c : Int) : Wd (sumLo a b c) := by unfold Wd sumLo; omega
theorem subLo_wd (a b c : Int) : Wd (subLo a b c) := by unfold Wd subLo; omega
theorem mulLo_wd (a b : Int) : Wd (mulLo a b) := by unfold Wd mulLo; omega
theorem sumHi_le {a b c : Int} (ha : Wd a) (hb : Wd b) (h0 : 0 ≤ c) (h1 : c ≤ 1) : 0 ≤ sumHi a b c ∧ sumHi a b c ≤ 1 := by unfold Wd at *; unfold sumHi; omega
theorem subHi_le (a b c : Int) : 0 ≤ subHi a b c ∧ subHi a b c ≤ 1 := by unfold subHi; split <;> omega
theorem sum_eq (a b c : Int) : sumLo a b c + 18446744073709551616 * sumHi a b c = a + b + c := by unfold sumLo sumHi; omega
theorem sub_eq {a b c : Int} (ha : Wd a) (hb : Wd b) (h0 : 0 ≤ c) (h1 : c ≤ 1) : subLo a b c + b + c = a + 18446744073709551616 * subHi a b c := by unfold Wd at *; unfold subLo subHi; split <;> omega
theorem mul_eq (a b : Int) : mulLo a b + 18446744073709551616 * mulHi a b = a * b := by unfold mulLo mulHi; omega
theorem mulHi_wd {a b : Int} (ha : Wd a) (hb : Wd b) : Wd (mulHi a b) := by
  obtain ⟨x, rfl⟩ := Int.eq_ofNat_of_zero_le ha.1
  obtain ⟨y, rfl⟩ := Int.eq_ofNat_of_zero_le hb.1
  have h1 := ha.2
  have h2 := hb.2
  have h3 : x * y ≤ 18446744073709551615 * 18446744073709551615 := Nat.mul_le_mul (by omega) (by omega)
  have h4 : ((x : Int) * (y : Int)) = ((x * y : Nat) : Int) := rfl
  unfold Wd mulHi
  rw [h4]
  omega

theorem run_bits_add (x y c : Int) (hx : 0 ≤ x) (hy : 0 ≤ y) (h0 : 0 ≤ c) (h1 : c ≤ 1) (w : World) :
    (callFunc 58 #[.int .u64 x, .int .u64 y, .int .u64 c]).run Try.prog w = .ok (.value (.tuple #[.int .u64 (sumLo x y c), .int .u64 (sumHi x y c)])) w := by
  rw [run_callFunc_extern Try.func58 (by kernel_rfl) (by kernel_rfl) (by kernel_rfl) (e := add64Entry) (by kernel_rfl), run_add64 x y c hx hy h0 h1]
  rfl

theorem word_add (a b c : Int) (ha : Wd a) (hb : Wd b) (h0 : 0 ≤ c) (h1 : c ≤ 1) (w : World) :
    Calls Try.prog 47 #[.int .u64 a, .int .u64 b, .int .u64 c] w fun e w' => e = .returned (.tuple #[.int .u64 (sumLo a b c), .int .u64 (sumHi a b c)]) ∧ w = w' := by
  have hr := fun W => run_bits_add a b c ha.1 hb.1 h0 h1 W
  have hm : (if (1 : Int) < c then (1 : Int) else c) = c := if_neg (by omega)
  go_enter Try.func47, Try.ntmps47
  go_wp2
  go_ret2
  exact ⟨rfl, rfl⟩

theorem run_bits_sub (x y c : Int) (hx : Wd x) (hy : Wd y) (h0 : 0 ≤ c) (h1 : c ≤ 1) (w : World) :
    (callFunc 59 #[.int .u64 x, .int .u64 y, .int .u64 c]).run Try.prog w = .ok (.value (.tuple #[.int .u64 (subLo x y c), .int .u64 (subHi x y c)])) w := by
  obtain ⟨m, rfl⟩ := Int.eq_ofNat_of_zero_le hx.1
  obtain ⟨n, rfl⟩ := Int.eq_ofNat_of_zero_le hy.1
  obtain ⟨b, rfl⟩ := Int.eq_ofNat_of_zero_le h0
  rw [run_callFunc_extern Try.func59 (by kernel_rfl) (by kernel_rfl) (by kernel_rfl) (e := sub64Entry) (by kernel_rfl), run_sub64 m n b (by omega)]
  have e1 : (((m + 18446744073709551616 - n - b) % 18446744073709551616 : Nat) : Int) = subLo m n b := by unfold Wd at *; unfold subLo; omega
  have e2 : ((if m < n + b then 1 else 0 : Nat) : Int) = subHi m n b := by unfold subHi; split <;> split <;> omega
  rw [e1, e2]
  rfl

theorem word_sub (a b c : Int) (ha : Wd a) (hb : Wd b) (h0 : 0 ≤ c) (h1 : c ≤ 1) (w : World) :
    Calls Try.prog 51 #[.int .u64 a, .int .u64 b, .int .u64 c] w fun e w' => e = .returned (.tuple #[.int .u64 (subLo a b c), .int .u64 (subHi a b c)]) ∧ w = w' := by
  have hr := fun W => run_bits_sub a b c ha hb h0 h1 W
  have hm : (if (1 : Int) < c then (1 : Int) else c) = c := if_neg (by omega)
  go_enter Try.func51, Try.ntmps51
  go_wp2
  go_ret2
  exact ⟨rfl, rfl⟩

theorem bits_mul (x y : Nat) (hx : x < 18446744073709551616) (hy : y < 18446744073709551616) (w : World) :
    Calls Try.prog 72 #[.int .u64 x, .int .u64 y] w fun e w' => e = .returned (.tuple #[.int .u64 ((x * y / 18446744073709551616 : Nat) : Int), .int .u64 ((x * y % 18446744073709551616 : Nat) : Int)]) ∧ w' = w := by
  obtain ⟨bd, bt, bw, hhi⟩ := Lib.mul64_hi x y hx hy
  have ba := Lib.half_mul_le (a := x / 4294967296) (b := y / 4294967296) (by omega) (by omega)
  have bb := Lib.half_mul_le (a := x / 4294967296) (b := y % 4294967296) (by omega) (by omega)
  have bc := Lib.half_mul_le (a := x % 4294967296) (b := y / 4294967296) (by omega) (by omega)
  have ba' : x / 4294967296 * (y / 4294967296) < 18446744073709551616 := by omega
  have bb' : x / 4294967296 * (y % 4294967296) < 18446744073709551616 := by omega
  have bc' : x % 4294967296 * (y / 4294967296) < 18446744073709551616 := by omega
  have bh1 : x / 4294967296 * (y / 4294967296) + (x / 4294967296 * (y % 4294967296) + x % 4294967296 * (y % 4294967296) / 4294967296) / 4294967296 < 18446744073709551616 := by omega
  have bh : x / 4294967296 * (y / 4294967296) + (x / 4294967296 * (y % 4294967296) + x % 4294967296 * (y % 4294967296) / 4294967296) / 4294967296 + ((x / 4294967296 * (y % 4294967296) + x % 4294967296 * (y % 4294967296) / 4294967296) % 4294967296 + x % 4294967296 * (y / 4294967296)) / 4294967296 < 18446744073709551616 := by omega
  go_enter Try.func72, Try.ntmps72
  go_wp2
  simp only [Mul64.maskN x hx, Mul64.maskN y hy, Mul64.divN, Mul64.mulN, Mul64.addN, Mul64.wrapN _ bd, Mul64.wrapN _ bb', Mul64.wrapN _ bt, Mul64.maskN _ bt, Mul64.wrapN _ bc', Mul64.wrapN _ bw, Mul64.wrapN _ ba', Mul64.wrapN _ bh1, Mul64.wrapN _ bh, Mul64.wrapM (x * y)]
  rw [hhi]
  go_ret2
  exact ⟨rfl, rfl⟩

theorem word_mul (a b : Int) (ha : Wd a) (hb : Wd b) (w : World) :
    Calls Try.prog 68 #[.int .u64 a, .int .u64 b] w fun e w' => e = .returned (.tuple #[.int .u64 (mulHi a b), .int .u64 (mulLo a b)]) ∧ w = w' := by
  obtain ⟨x, rfl⟩ := Int.eq_ofNat_of_zero_le ha.1
  obtain ⟨y, rfl⟩ := Int.eq_ofNat_of_zero_le hb.1
  have hx : x < 18446744073709551616 := by have := ha.2; omega
  have hy : y < 18446744073709551616 := by have := hb.2; omega
  have hc := fun W => bits_mul x y hx hy W
  have e1 : ((x * y / 18446744073709551616 : Nat) : Int) = mulHi x y := rfl
  have e2 : ((x * y % 18446744073709551616 : Nat) : Int) = mulLo x y := rfl
  rw [e1, e2] at hc
  clear e1 e2 hx hy ha hb
  have HC := Aside0.mk hc
  clear hc
  go_enter Try.func68, Try.ntmps68
  go_wp2_with (go_at_call 72; refine (HC.out _).mono ?_; rintro e w' ⟨rfl, rfl⟩)
  go_ret2
  exact ⟨rfl, rfl⟩
end Go.Proofs.Ytcgcffnhlafneaa.Hand

/- How many bits a number has; word.Len by hand. -/
namespace Go.Proofs.Ytcgcffnhlafneaa.Hand
open Go.RowKit Go.Proofs.YtcgcffnhlafneaaW.PrintWords Go.Proofs.YtcgcffnhlafneaaW.PrintMore Go.Proofs.Ytcgcffnhlafneaa.Num
set_option linter.unusedVariables false
set_option linter.unusedSimpArgs false
attribute [local go_sem] Oper.semAt_some max2_int min2_int max_two min_two

/-- How many bits a number has. -/
def bl (n : Nat) : Nat := if n = 0 then 0 else n.log2 + 1
theorem bl_le {n k : Nat} : bl n ≤ k ↔ n < 2 ^ k := by
  unfold bl
  split
  · rename_i h; subst h; simp [Nat.two_pow_pos]
  · rename_i h; exact (Nat.log2_lt h)

theorem bl_step (x k : Nat) : bl (x % 2 ^ (k + 1)) = if x / 2 ^ k % 2 = 1 then k + 1 else bl (x % 2 ^ k) := by
  rw [Nat.mod_pow_succ]
  have hr := Nat.mod_lt x (Nat.two_pow_pos k)
  split
  · rename_i h
    rw [h, Nat.mul_one]
    have h1 : bl (x % 2 ^ k + 2 ^ k) ≤ k + 1 := bl_le.2 (by rw [Nat.pow_succ]; omega)
    have h2 : ¬ bl (x % 2 ^ k + 2 ^ k) ≤ k := fun h => by have := bl_le.1 h; omega
    omega
  · rename_i h
    rw [show x / 2 ^ k % 2 = 0 by omega, Nat.mul_zero, Nat.add_zero]
theorem bit_at (x k : Nat) (hx : x < 18446744073709551616) : bits BinOp.and IntKind.u64 ((x : Int) / 2 ^ k) 1 = ((x / 2 ^ k % 2 : Nat) : Int) := by
  have e : ((x : Int) / 2 ^ k) = ((x / 2 ^ k : Nat) : Int) := by simp
  have h := bits_and_u64_nat (x / 2 ^ k) 1 (Nat.lt_of_le_of_lt (Nat.div_le_self _ _) hx) (by decide)
  rw [e]
  rw [Nat.and_one_is_mod] at h
  exact h

set_option maxRecDepth 100000 in
theorem word_len (x : Int) (hx : Wd x) (w : World) :
    Calls Try.prog 49 #[.int .u64 x] w fun e w' => e = .returned (.int .i64 (bl x.toNat)) ∧ w = w' := by
  obtain ⟨x, rfl⟩ := Int.eq_ofNat_of_zero_le hx.1
  have hb := hx.2
  go_enter Try.func49, Try.ntmps49
  go_wp2
  go_loop [3, 5] (fun t u => ∃ k : Nat, k ≤ 64 ∧ u = .int .i64 k ∧ t = .int .i64 (bl (x % 2 ^ k))) (fun _ u => 64 - (intOf u).toNat)
  case atStart => exact ⟨0, by omega, rfl, by rw [show x % 2 ^ 0 = 0 from by omega]; rfl⟩
  case round =>
    obtain ⟨k, hk, rfl, rfl⟩ := hrel
    by_cases hlt : k < 64
    · have bit_at := bit_at x k (by omega)
      have BIT := Aside0.mk bit_at
      clear bit_at
      generalize hz : bl (x % 2 ^ k) = z
      have HZ := Aside0.mk hz
      clear hz hb hx
      go_wp2
      · rename_i hq
        refine ⟨⟨k + 1, by omega, by go_num, ?_⟩, by simp [intOf]; omega⟩
        rw [BIT.out, beq_iff_eq] at hq
        rw [bl_step, if_pos (by omega)]
        rfl
      · rename_i hq
        refine ⟨⟨k + 1, by omega, by go_num, ?_⟩, by simp [intOf]; omega⟩
        rw [BIT.out, beq_eq_false_iff_ne] at hq
        rw [bl_step, if_neg (by omega), HZ.out]
    · obtain rfl : k = 64 := by omega
      have e : x % 2 ^ 64 = x := Nat.mod_eq_of_lt (by omega)
      rw [e]
      go_wp2
      go_ret
      exact ⟨rfl, rfl⟩
end Go.Proofs.Ytcgcffnhlafneaa.Hand

/- A long division's one figure (Knuth's), in plain numbers: the guess is never too small, and is put right by at most two steps. -/
namespace Go.Proofs.Ytcgcffnhlafneaa.Pure
open Go.Proofs.Ytcgcffnhlafneaa.Num

/-- 2^32, under a name. -/
def B : Nat := 4294967296
theorem B_eq : B = 4294967296 := rfl
theorem B_pos : 0 < B := by decide
/-- How a guess stands: q times the divisor's upper half, and r, is what is divided by it; q is not too small. -/
structure Kn (y1 y0 u d q r : Nat) : Prop where
  e : q * y1 + r = u
  ge : (u * B + d) / (y1 * B + y0) ≤ q
theorem kn_cmp {y1 y0 u d q r : Nat} (e : q * y1 + r = u) : B * r + d < q * y0 ↔ u * B + d < q * (y1 * B + y0) := by
  have h1 : u * B = q * y1 * B + B * r := by rw [← e, Nat.add_mul, Nat.mul_comm r]
  rw [Nat.mul_add, ← Nat.mul_assoc, h1]
  omega
theorem kn_stop {y1 y0 u d q r : Nat} (h : Kn y1 y0 u d q r) (hy : 0 < y1) (hc : ¬ B * r + d < q * y0) : q = (u * B + d) / (y1 * B + y0) := by
  rw [kn_cmp h.e] at hc
  have hp : 0 < y1 * B + y0 := Nat.lt_of_lt_of_le (Nat.mul_pos hy B_pos) (Nat.le_add_right _ _)
  exact Nat.le_antisymm ((Nat.le_div_iff_mul_le hp).2 (by omega)) h.ge
theorem kn_lt {y1 y0 u d : Nat} (hu : u < y1 * B + y0) (hd : d < B) : (u * B + d) / (y1 * B + y0) < B := by
  refine Nat.div_lt_of_lt_mul ?_
  have h1 : (u + 1) * B ≤ (y1 * B + y0) * B := Nat.mul_le_mul_right B hu
  rw [Nat.add_mul, Nat.one_mul] at h1
  omega
theorem kn_go {y1 y0 u d q r : Nat} (h : Kn y1 y0 u d q r) (hu : u < y1 * B + y0) (hd : d < B) (hc : B ≤ q ∨ B * r + d < q * y0) : 0 < q ∧ Kn y1 y0 u d (q - 1) (r + y1) := by
  have hlt : (u * B + d) / (y1 * B + y0) < q := by
    rcases hc with hc | hc
    · exact Nat.lt_of_lt_of_le (kn_lt hu hd) hc
    · rw [kn_cmp h.e] at hc
      exact (Nat.div_lt_iff_lt_mul (Nat.pos_of_ne_zero fun h0 => by rw [h0, Nat.mul_zero] at hc; omega)).2 hc
  have hq : 0 < q := Nat.lt_of_le_of_lt (Nat.zero_le _) hlt
  refine ⟨hq, ?_, Nat.le_sub_one_of_lt hlt⟩
  obtain ⟨p, rfl⟩ : ∃ p, q = p + 1 := ⟨q - 1, by omega⟩
  have he := h.e
  rw [Nat.add_mul, Nat.one_mul] at he
  rw [Nat.add_sub_cancel]
  omega
theorem kn_break {y1 y0 u d q r : Nat} (h : Kn y1 y0 u d q r) (hy : 0 < y1) (h0 : y0 < B) (hq : q ≤ B) (hr : B ≤ r) : q = (u * B + d) / (y1 * B + y0) := by
  refine kn_stop h hy ?_
  have h1 : q * y0 ≤ B * B := Nat.mul_le_mul hq (Nat.le_of_lt h0)
  have h2 : B * B ≤ B * r := Nat.mul_le_mul_left B hr
  omega
theorem kn_first {y1 y0 u d : Nat} (hy : 2147483648 ≤ y1) (h0 : y0 < B) (hu : u < y1 * B + y0) (hd : d < B) : Kn y1 y0 u d (u / y1) (u % y1) ∧ u / y1 ≤ B + 1 := by
  have hp : 0 < y1 := by omega
  refine ⟨⟨by rw [Nat.mul_comm]; exact Nat.div_add_mod u y1, ?_⟩, ?_⟩
  · have h1 : (u * B + d) / (y1 * B + y0) ≤ (u * B + d) / (y1 * B) := Nat.div_le_div_left (Nat.le_add_right _ _) (Nat.mul_pos hp B_pos)
    have h2 : (u * B + d) / (y1 * B) = u / y1 := by
      rw [Nat.mul_comm y1, ← Nat.div_div_eq_div_mul, Nat.add_comm, Nat.add_mul_div_right _ _ B_pos, Nat.div_eq_of_lt hd, Nat.zero_add]
    omega
  · have h3 : u < y1 * (B + 2) := by
      rw [Nat.mul_add]
      have := B_eq
      omega
    have := Nat.div_lt_of_lt_mul h3
    omega
/-- What is left behind a figure, modulo 2^64. -/
theorem kn_rest {N v q : Nat} (hv : 0 < v) (hq : q = N / v) (hb : v ≤ 18446744073709551616) : (N % 18446744073709551616 + 18446744073709551616 - q * v % 18446744073709551616) % 18446744073709551616 = N % v := by
  have h1 := Nat.div_add_mod N v
  have h2 := Nat.mod_lt N hv
  subst hq
  have h3 : N / v * v = v * (N / v) := Nat.mul_comm _ _
  rw [h3]
  generalize v * (N / v) = p at *
  generalize N % v = r at *
  omega
/-- Two figures are a quotient. -/
theorem kn_two {v u d1 d0 : Nat} (hv : 0 < v) : (u * B + d1) / v * B + ((u * B + d1) % v * B + d0) / v = ((u * B + d1) * B + d0) / v ∧ ((u * B + d1) % v * B + d0) % v = ((u * B + d1) * B + d0) % v := by
  generalize u * B + d1 = N
  have h1 := Nat.div_add_mod N v
  have e : N * B + d0 = N % v * B + d0 + v * (N / v * B) := by
    have h2 : N * B = v * (N / v) * B + N % v * B := by rw [← Nat.add_mul, h1]
    rw [h2, Nat.mul_assoc]
    omega
  rw [e, Nat.add_mul_div_left _ _ hv, Nat.add_mul_mod_self_left]
  exact ⟨Nat.add_comm _ _, rfl⟩
/-- Moved up both: the same quotient, the rest moved up. -/
theorem kn_moved {n y p : Nat} (hp : 0 < p) : n * p / (y * p) = n / y ∧ n * p % (y * p) / p = n % y := by
  refine ⟨Nat.mul_div_mul_right _ _ hp, ?_⟩
  rw [Nat.mul_mod_mul_right, Nat.mul_div_cancel _ hp]
end Go.Proofs.Ytcgcffnhlafneaa.Pure
