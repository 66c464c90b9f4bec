/- word.Add, word.Sub, word.Mul, word.Len, word.Div, word.Gcd: the contracts, as the callers' texts take them, at all words. -/
import Derived.Test.YtnmfinhmhmepdaaHDivA
import Derived.WalkMore
namespace Go.Proofs.Ytnmfinhmhmepdaa.Hand
open Go.RowKit Go.Proofs.YtnmfinhmhmepdaaW.PrintWords Go.Proofs.YtnmfinhmhmepdaaW.PrintMore Go.Proofs.Ytnmfinhmhmepdaa.Num Go.Proofs.Ytnmfinhmhmepdaa.Pure
set_option linter.unusedVariables false
set_option linter.unusedSimpArgs false
attribute [local go_sem] Oper.semAt_some max2_int min2_int max_two min_two

def wdb (x : Int) : Bool := decide (0 ≤ x) && decide (x < 18446744073709551616)
theorem wdb_iff {x : Int} : wdb x = true ↔ Wd x := by simp [wdb, Wd]
theorem run_bits_add' (x y c : Int) (hx : Wd x) (hy : Wd y) (h0 : 0 ≤ c) (h1 : c ≤ 1) (w : World) :
    (callFunc 26 #[.int .u64 x, .int .u64 y, .int .u64 c]).run Try.prog w = .ok (.value (.tuple #[.int .u64 (sumLo x y c), .int .u64 (sumHi x y c)])) w := run_bits_add x y c hx.1 hy.1 h0 h1 w
def cut1 (c : Int) : Int := if 1 < c then 1 else c
theorem cut1_in {c : Int} (h : Wd c) : 0 ≤ cut1 c ∧ cut1 c ≤ 1 := by unfold Wd at h; unfold cut1; split <;> omega
def word_Add.f (a b c : Int) : Option (Int × Int) := if wdb a = true ∧ wdb b = true ∧ wdb c = true then some (sumLo a b (cut1 c), sumHi a b (cut1 c)) else none
theorem word_Add.calls (a0 a1 a2 : Int) (r1 r2 : Int) (w : World) (h : word_Add.f a0 a1 a2 = some (r1, r2)) :
    Calls Try.prog 14 #[.int .u64 a0, .int .u64 a1, .int .u64 a2] w fun e w' => e = .returned (.tuple #[.int .u64 r1, .int .u64 r2]) ∧ Below w.heap.size w w' := by
  unfold word_Add.f at h
  split at h
  · rename_i hi
    obtain ⟨rfl, rfl⟩ := Prod.mk.injEq .. ▸ Option.some.inj h
    have hc := cut1_in (wdb_iff.1 hi.2.2)
    have hr := fun W => run_bits_add' a0 a1 (cut1 a2) (wdb_iff.1 hi.1) (wdb_iff.1 hi.2.1) hc.1 hc.2 W
    have hm : (if (1 : Int) < a2 then (1 : Int) else a2) = cut1 a2 := rfl
    clear hi h hc
    generalize sumLo a0 a1 (cut1 a2) = r1 at *
    generalize sumHi a0 a1 (cut1 a2) = r2 at *
    generalize cut1 a2 = c at *
    go_enter Try.func14, Try.ntmps14
    go_wp2
    go_ret2
    exact ⟨rfl, Below.refl _ _⟩
  · cases h
def word_Sub.f (a b c : Int) : Option (Int × Int) := if wdb a = true ∧ wdb b = true ∧ wdb c = true then some (subLo a b (cut1 c), subHi a b (cut1 c)) else none
theorem word_Sub.calls (a0 a1 a2 : Int) (r1 r2 : Int) (w : World) (h : word_Sub.f a0 a1 a2 = some (r1, r2)) :
    Calls Try.prog 18 #[.int .u64 a0, .int .u64 a1, .int .u64 a2] w fun e w' => e = .returned (.tuple #[.int .u64 r1, .int .u64 r2]) ∧ Below w.heap.size w w' := by
  unfold word_Sub.f at h
  split at h
  · rename_i hi
    obtain ⟨rfl, rfl⟩ := Prod.mk.injEq .. ▸ Option.some.inj h
    have hc := cut1_in (wdb_iff.1 hi.2.2)
    have hr := fun W => run_bits_sub a0 a1 (cut1 a2) (wdb_iff.1 hi.1) (wdb_iff.1 hi.2.1) hc.1 hc.2 W
    have hm : (if (1 : Int) < a2 then (1 : Int) else a2) = cut1 a2 := rfl
    clear hi h hc
    generalize subLo a0 a1 (cut1 a2) = r1 at *
    generalize subHi a0 a1 (cut1 a2) = r2 at *
    generalize cut1 a2 = c at *
    go_enter Try.func18, Try.ntmps18
    go_wp2
    go_ret2
    exact ⟨rfl, Below.refl _ _⟩
  · cases h
def word_Mul.f (a b : Int) : Option (Int × Int) := if wdb a = true ∧ wdb b = true then some (mulHi a b, mulLo a b) else none
theorem word_Mul.calls (a0 a1 : Int) (r1 r2 : Int) (w : World) (h : word_Mul.f a0 a1 = some (r1, r2)) :
    Calls Try.prog 13 #[.int .u64 a0, .int .u64 a1] w fun e w' => e = .returned (.tuple #[.int .u64 r1, .int .u64 r2]) ∧ Below w.heap.size w w' := by
  unfold word_Mul.f at h
  split at h
  · rename_i hi
    obtain ⟨rfl, rfl⟩ := Prod.mk.injEq .. ▸ Option.some.inj h
    exact Calls.mono (word_mul a0 a1 (wdb_iff.1 hi.1) (wdb_iff.1 hi.2) w) fun e w' h => ⟨h.1, by rw [← h.2]; exact Below.refl _ _⟩
  · cases h
def word_Len.f (a : Int) : Option Int := if wdb a = true then some (bl a.toNat) else none
theorem word_Len.calls (a0 : Int) (r : Int) (w : World) (h : word_Len.f a0 = some r) :
    Calls Try.prog 15 #[.int .u64 a0] w fun e w' => e = .returned (.int .i64 r) ∧ Below w.heap.size w w' := by
  unfold word_Len.f at h
  split at h
  · rename_i hi
    cases h
    exact Calls.mono (word_len a0 (wdb_iff.1 hi) w) fun e w' h => ⟨h.1, by rw [← h.2]; exact Below.refl _ _⟩
  · cases h
/-- What word.Div answers: the quotient, what is left, and an error's number. -/
def divW (hi lo d : Int) : Int × Int × Int := if d = 0 then (0, 0, 2) else if d ≤ hi then (0, 0, 1) else ((((hi.toNat * 18446744073709551616 + lo.toNat) / d.toNat : Nat) : Int), (((hi.toNat * 18446744073709551616 + lo.toNat) % d.toNat : Nat) : Int), 0)
set_option maxRecDepth 100000 in
theorem word_div (a0 a1 a2 : Int) (h0 : Wd a0) (h1 : Wd a1) (h2 : Wd a2) (w : World) :
    Calls Try.prog 12 #[.int .u64 a0, .int .u64 a1, .int .u64 a2] w fun e w' => e = .returned (.tuple #[.int .u64 (divW a0 a1 a2).1, .int .u64 (divW a0 a1 a2).2.1, .int .i64 (divW a0 a1 a2).2.2]) ∧ Below w.heap.size w w' := by
  unfold divW
  by_cases c0 : a2 = 0
  · subst c0
    rw [if_pos rfl]
    go_enter Try.func12, Try.ntmps12
    go_wp2
    go_ret3
    exact ⟨rfl, Below.refl _ _⟩
  · rw [if_neg c0]
    have z0 : (a2 == 0) = false := by simpa using c0
    by_cases c1 : a2 ≤ a0
    · rw [if_pos c1]
      go_enter Try.func12, Try.ntmps12
      go_wp2
      go_ret3
      exact ⟨rfl, Below.refl _ _⟩
    · rw [if_neg c1]
      obtain ⟨x, rfl⟩ := Int.eq_ofNat_of_zero_le h0.1
      obtain ⟨y, rfl⟩ := Int.eq_ofNat_of_zero_le h1.1
      obtain ⟨z, rfl⟩ := Int.eq_ofNat_of_zero_le h2.1
      simp only [Int.toNat_natCast]
      have hc := fun W => bits_div64 x y z (by omega) (by have := h1.2; omega) (by have := h2.2; omega) W
      generalize (x * 18446744073709551616 + y) / z = q at *
      generalize (x * 18446744073709551616 + y) % z = r at *
      have HC := Aside0.mk hc
      clear hc
      go_enter Try.func12, Try.ntmps12
      go_wp2_with (go_at_call 24; with_reducible refine (HC.out _).mono ?_; rintro e w' ⟨rfl, hb⟩; have HB := Aside0.mk hb; clear hb)
      go_ret3
      exact ⟨rfl, HB.out⟩
def word_Div.f (a b c : Int) : Option (Int × Int × Int) := if wdb a = true ∧ wdb b = true ∧ wdb c = true then some (divW a b c) else none
theorem word_Div.calls (a0 a1 a2 : Int) (r1 r2 r3 : Int) (w : World) (h : word_Div.f a0 a1 a2 = some (r1, r2, r3)) :
    Calls Try.prog 12 #[.int .u64 a0, .int .u64 a1, .int .u64 a2] w fun e w' => e = .returned (.tuple #[.int .u64 r1, .int .u64 r2, .int .i64 r3]) ∧ Below w.heap.size w w' := by
  unfold word_Div.f at h
  split at h
  · rename_i hi
    have e := Option.some.inj h
    have hd := word_div a0 a1 a2 (wdb_iff.1 hi.1) (wdb_iff.1 hi.2.1) (wdb_iff.1 hi.2.2) w
    rw [e] at hd
    exact hd
  · cases h
def word_Gcd.f (a b : Int) : Option Int := if wdb a = true ∧ wdb b = true then some ((Nat.gcd a.toNat b.toNat : Nat) : Int) else none
set_option maxRecDepth 100000 in
theorem word_gcd (x y : Nat) (hx : x < 18446744073709551616) (hy : y < 18446744073709551616) (w : World) :
    Calls Try.prog 16 #[.int .u64 x, .int .u64 y] w fun e w' => e = .returned (.int .u64 (Nat.gcd x y : Nat)) ∧ Below w.heap.size w w' := by
  generalize hg : Nat.gcd x y = g
  have HG := Aside0.mk hg
  clear hg
  go_enter Try.func16, Try.ntmps16
  go_wp2
  refine wp_scope_straight ?_
  go_wp2
  refine wp_label ?_
  go_wp2
  go_loopw [0, 1] (fun av bv wr => ∃ a b : Nat, av = .int .u64 (a : Int) ∧ bv = .int .u64 (b : Int) ∧ a < 18446744073709551616 ∧ b < 18446744073709551616 ∧ Aside0 (Nat.gcd a b = g) ∧ Aside0 (Below w.heap.size w wr)) (fun _ bv _ => (intOf bv).toNat)
  case atStart => exact ⟨x, y, rfl, rfl, hx, hy, HG, ⟨Below.refl _ _⟩⟩
  case round =>
    obtain ⟨a, b, rfl, rfl, ha, hb, HE, HB⟩ := hrel
    rcases Nat.eq_zero_or_pos b with h0 | h0
    · subst h0
      have he := HE.out
      rw [Nat.gcd_zero_right] at he
      subst he
      go_wp2
      rw [Exit.noGoto_ret]
      refine bodyPost_ret (results_tmp rfl _ _ _) rfl ?_
      exact ⟨rfl, HB.out⟩
    · have z0 : ((b : Int) == 0) = false := by rw [beq_eq_false_iff_ne]; omega
      have hm : a % b < b := Nat.mod_lt a h0
      have e1 : ((a : Int) % (b : Int)) = ((a % b : Nat) : Int) := rfl
      have e2 : Int.tmod (a : Int) (b : Int) = ((a % b : Nat) : Int) := rfl
      have HE2 : Aside0 (Nat.gcd b (a % b) = g) := ⟨by rw [← HE.out, Nat.gcd_comm b, ← Nat.gcd_rec, Nat.gcd_comm]⟩
      generalize a % b = m at *
      go_wp2
      go_region
      all_goals
        go_wp2
        exact ⟨⟨b, m, rfl, rfl, hb, Nat.lt_trans hm hb, HE2, ⟨HB.out.drew⟩⟩, by simp [intOf]; omega⟩
theorem word_Gcd.calls (a0 a1 : Int) (r : Int) (w : World) (h : word_Gcd.f a0 a1 = some r) :
    Calls Try.prog 16 #[.int .u64 a0, .int .u64 a1] w fun e w' => e = .returned (.int .u64 r) ∧ Below w.heap.size w w' := by
  unfold word_Gcd.f at h
  split at h
  · rename_i hi
    cases h
    have h0 := wdb_iff.1 hi.1
    have h1 := wdb_iff.1 hi.2
    obtain ⟨x, rfl⟩ := Int.eq_ofNat_of_zero_le h0.1
    obtain ⟨y, rfl⟩ := Int.eq_ofNat_of_zero_le h1.1
    exact word_gcd x y (by have := h0.2; omega) (by have := h1.2; omega) w
  · cases h
end Go.Proofs.Ytnmfinhmhmepdaa.Hand
