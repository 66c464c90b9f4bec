/- WordDivides: quotients, what is left, how many bits there are, and greatest divisors, are as the document says. -/
import Derived.Test.YtnmfinhmhmepdaaPWordA
import Derived.Test.YtnmfinhmhmepdaaPa10
namespace Go.Proofs.Ytnmfinhmhmepdaa.Pure
open Go.RowKit Go.Proofs.Ytnmfinhmhmepdaa.Pa Go.Proofs.YtnmfinhmhmepdaaW.PrintWords Go.Proofs.YtnmfinhmhmepdaaW.PrintMore Go.Proofs.YtnmfinhmhmepdaaW.PrintLast Go.Proofs.Ytnmfinhmhmepdaa.Hand Go.Proofs.Ytnmfinhmhmepdaa.Num
set_option linter.unusedVariables false
set_option linter.unusedSimpArgs false

/-! ### The document's quotient, bit by bit -/
theorem dv_q (q : Nat) (h : q < 9223372036854775808) : IntKind.u64.wrap ((q : Int) + (q : Int)) = ((2 * q : Nat) : Int) ∧ IntKind.u64.wrap (IntKind.u64.wrap ((q : Int) + (q : Int)) + 1) = ((2 * q + 1 : Nat) : Int) := by
  rw [IntKind.wrap_u64, IntKind.wrap_u64]; omega
theorem dv_r0 (r : Nat) (h : r < 9223372036854775808) : IntKind.u64.wrap ((r : Int) + (r : Int)) = ((2 * r : Nat) : Int) ∧ IntKind.u64.wrap (IntKind.u64.wrap ((r : Int) + (r : Int)) + 1) = ((2 * r + 1 : Nat) : Int) := dv_q r h
theorem dv_s0 (r d : Nat) (hr : r < d) (hd : d < 18446744073709551616) (h : d ≤ 2 * r) : IntKind.u64.wrap (IntKind.u64.wrap ((r : Int) + (r : Int)) - (d : Int)) = ((2 * r - d : Nat) : Int) := by
  rw [IntKind.wrap_u64, IntKind.wrap_u64]; omega
theorem dv_s1 (r d : Nat) (hr : r < d) (hd : d < 18446744073709551616) (h : d ≤ 2 * r + 1) : IntKind.u64.wrap (IntKind.u64.wrap (IntKind.u64.wrap ((r : Int) + (r : Int)) + 1) - (d : Int)) = ((2 * r + 1 - d : Nat) : Int) := by
  rw [IntKind.wrap_u64, IntKind.wrap_u64, IntKind.wrap_u64]; omega
theorem dv_x (x p : Nat) (hx : x < 18446744073709551616) (h : p ≤ x) : IntKind.u64.wrap ((x : Int) - (p : Int)) = ((x - p : Nat) : Int) := by
  rw [IntKind.wrap_u64]; omega
theorem dv_b (p : Nat) (hp : 2 * p < 18446744073709551616) : IntKind.u64.wrap (Int.tdiv ((2 * p : Nat) : Int) 2) = (p : Int) := by
  rw [show Int.tdiv ((2 * p : Nat) : Int) 2 = ((2 * p / 2 : Nat) : Int) from rfl, IntKind.wrap_u64]; omega
theorem dv_half (n : Nat) : 2 ^ (n + 1) / 2 = 2 ^ n := by rw [Nat.pow_succ]; omega
/-- One bit's step, in plain numbers. -/
theorem dv_step {q d r x p N b : Nat} (hN : (q * d + r) * (p * 2) + (x + b * p) = N) (q' r' : Nat) (h : q' * d + r' = 2 * (q * d + r) + b) : (q' * d + r') * p + x = N := by
  rw [h, ← hN, Nat.add_mul, Nat.mul_comm p 2, ← Nat.mul_assoc, Nat.mul_comm (q * d + r) 2]
  omega
theorem div01_ev {d N : Nat} (hd0 : 0 < d) (hd : d < 18446744073709551616) : ∀ (n i x q r : Nat), i + n = 64 → x < 2 ^ n → r < d → q < 2 ^ i → (q * d + r) * 2 ^ n + x = N →
    Ev (fun k => tallystickref01_Div.l0 k (x : Int) (d : Int) (q : Int) (r : Int) ((2 ^ n / 2 : Nat) : Int) (i : Int)) (((N / d : Nat) : Int), ((N % d : Nat) : Int), 0)
  | 0, i, x, q, r, hi, hx, hr, hq, hN => by
    have hx0 : x = 0 := by simpa using hx
    subst hx0
    rw [Nat.pow_zero, Nat.mul_one, Nat.add_zero] at hN
    have e1 : N / d = q := by rw [← hN, Nat.mul_comm, Nat.mul_add_div hd0, Nat.div_eq_of_lt hr, Nat.add_zero]
    have e2 : N % d = r := by rw [← hN, Nat.mul_comm, Nat.mul_add_mod, Nat.mod_eq_of_lt hr]
    rw [e1, e2]
    exact Ev.succ (Ev.congr (G := fun _ => some ((q : Int), (r : Int), 0)) (fun k => by rw [tallystickref01_Div.l0, if_neg (by omega)]) (Ev.const rfl))
  | n + 1, i, x, q, r, hi, hx, hr, hq, hN => by
    have hp := Nat.two_pow_pos n
    have hp2 : 2 ^ (n + 1) ≤ 2 ^ 64 := Nat.pow_le_pow_right (by decide) (by omega)
    have hq2 : 2 ^ i ≤ 2 ^ 63 := Nat.pow_le_pow_right (by decide) (by omega)
    have hpi : 2 ^ (i + 1) = 2 ^ i * 2 := Nat.pow_succ _ _
    rw [dv_half]
    rw [Nat.pow_succ] at hx hN hp2
    have ih := div01_ev (d := d) (N := N) hd0 hd n (i + 1)
    have hb : IntKind.u64.wrap (Int.tdiv ((2 ^ n : Nat) : Int) 2) = ((2 ^ n / 2 : Nat) : Int) := by
      rw [show Int.tdiv ((2 ^ n : Nat) : Int) 2 = ((2 ^ n / 2 : Nat) : Int) from rfl]
      exact u_nat _ (by generalize 2 ^ n = p at *; omega)
    have hw := w_succ i (by omega)
    rw [hpi] at ih
    generalize 2 ^ n / 2 = p2 at *
    generalize 2 ^ n = p at *
    generalize 2 ^ i = t at *
    obtain ⟨hq0, hq1⟩ := dv_q q (by omega)
    have hi64 : (i : Int) < 64 := by omega
    by_cases hxp : p ≤ x
    · have hx1 := dv_x x p (by omega) hxp
      have hge : ((x : Nat) : Int) ≥ (p : Int) := by omega
      have hN1 : (q * d + r) * (p * 2) + ((x - p) + 1 * p) = N := by rw [← hN]; congr 1; omega
      by_cases hdr : d ≤ 2 * r + 1
      · have hs := dv_s1 r d hr hd hdr
        have hih := ih (x - p) (2 * q + 1) (2 * r + 1 - d) (by omega) (by omega) (by omega) (by omega) (dv_step hN1 _ _ (by
          rw [Nat.add_mul, Nat.one_mul, Nat.mul_assoc]; omega))
        refine Ev.succ (Ev.congr (fun k => ?_) hih)
        by_cases ht : r < 9223372036854775808
        · have hr1 := (dv_r0 r ht).2
          rw [tallystickref01_Div.l0, if_pos hi64, if_pos hge, if_neg (by omega), hs, hr1, if_pos (by omega), hx1, hq1, hb, hw]
        · rw [tallystickref01_Div.l0, if_pos hi64, if_pos hge, if_pos (by omega), hs, hx1, hq1, hb, hw]
      · have hr1 := (dv_r0 r (by omega)).2
        have hih := ih (x - p) (2 * q) (2 * r + 1) (by omega) (by omega) (by omega) (by omega) (dv_step hN1 _ _ (by
          rw [Nat.mul_assoc]; omega))
        refine Ev.succ (Ev.congr (fun k => ?_) hih)
        rw [tallystickref01_Div.l0, if_pos hi64, if_pos hge, if_neg (by omega), hr1, if_neg (by omega), hx1, hq0, hb, hw]
    · have hge : ¬ ((x : Nat) : Int) ≥ (p : Int) := by omega
      have hN1 : (q * d + r) * (p * 2) + (x + 0 * p) = N := by rw [← hN]; congr 1; omega
      by_cases hdr : d ≤ 2 * r
      · have hs := dv_s0 r d hr hd hdr
        have hih := ih x (2 * q + 1) (2 * r - d) (by omega) (by omega) (by omega) (by omega) (dv_step hN1 _ _ (by
          rw [Nat.add_mul, Nat.one_mul, Nat.mul_assoc]; omega))
        refine Ev.succ (Ev.congr (fun k => ?_) hih)
        by_cases ht : r < 9223372036854775808
        · have hr1 := (dv_r0 r ht).1
          rw [tallystickref01_Div.l0, if_pos hi64, if_neg hge, if_neg (by omega), hs, hr1, if_pos (by omega), hq1, hb, hw]
        · rw [tallystickref01_Div.l0, if_pos hi64, if_neg hge, if_pos (by omega), hs, hq1, hb, hw]
      · have hr1 := (dv_r0 r (by omega)).1
        have hih := ih x (2 * q) (2 * r) (by omega) (by omega) (by omega) (by omega) (dv_step hN1 _ _ (by
          rw [Nat.mul_assoc]; omega))
        refine Ev.succ (Ev.congr (fun k => ?_) hih)
        rw [tallystickref01_Div.l0, if_pos hi64, if_neg hge, if_neg (by omega), hr1, if_neg (by omega), hq0, hb, hw]
/-! ### How many bits -/
theorem bl_half {x : Nat} (h : 0 < x) : bl x = bl (x / 2) + 1 := by
  have h1 : bl (x / 2) ≤ bl (x / 2) := Nat.le_refl _
  have h2 : bl x ≤ bl (x / 2) + 1 := bl_le.2 (by have := bl_le.1 h1; rw [Nat.pow_succ]; omega)
  have h3 : ¬ bl x ≤ bl (x / 2) := fun h => by
    have h4 := bl_le.1 h
    rcases Nat.eq_zero_or_pos (bl (x / 2)) with h5 | h5
    · rw [h5] at h4; simp at h4; omega
    · obtain ⟨m, hm⟩ : ∃ m, bl (x / 2) = m + 1 := ⟨bl (x / 2) - 1, by omega⟩
      have h6 : ¬ bl (x / 2) ≤ m := by omega
      rw [bl_le] at h6
      rw [hm, Nat.pow_succ] at h4
      omega
  omega
theorem len01_ev : ∀ (b x c : Nat), x < 2 ^ b → b ≤ 64 → c + b ≤ 1000 → Ev (fun k => tallystickref01_Len.l0 k (x : Int) (c : Int)) ((c + bl x : Nat) : Int)
  | 0, x, c, h, _, _ => by
    obtain rfl : x = 0 := by simpa using h
    exact Ev.succ (Ev.congr (G := fun _ => some (c : Int)) (fun k => by rw [tallystickref01_Len.l0, if_neg (by decide)]) (Ev.const rfl))
  | b + 1, x, c, h, hb, hc => by
    rcases Nat.eq_zero_or_pos x with h0 | h0
    · subst h0
      exact Ev.succ (Ev.congr (G := fun _ => some (c : Int)) (fun k => by rw [tallystickref01_Len.l0, if_neg (by decide)]) (Ev.const rfl))
    · have hx : x < 18446744073709551616 := Nat.lt_of_lt_of_le h (Nat.pow_le_pow_right (by decide) hb)
      have hw : IntKind.u64.wrap (Int.tdiv (x : Int) 2) = ((x / 2 : Nat) : Int) := by
        rw [show Int.tdiv (x : Int) 2 = ((x / 2 : Nat) : Int) from rfl, IntKind.wrap_u64]; omega
      have ih := len01_ev b (x / 2) (c + 1) (by rw [Nat.pow_succ] at h; omega) (by omega) (by omega)
      have e : c + 1 + bl (x / 2) = c + bl x := by rw [bl_half h0]; omega
      rw [e] at ih
      exact Ev.succ (Ev.congr (fun k => by rw [tallystickref01_Len.l0, if_pos (by omega), hw, w_succ c (by omega)]) ih)
/-! ### The document's greatest divisor -/
theorem gcd01_ev : ∀ (s a b : Nat), a + b ≤ s → a < 18446744073709551616 → b < 18446744073709551616 → Ev (fun k => tallystickref01_Gcd.l0 k (a : Int) (b : Int)) ((Nat.gcd a b : Nat) : Int) := by
  have hend : ∀ a b : Nat, (a = 0 ∨ b = 0) → a < 18446744073709551616 → b < 18446744073709551616 → Ev (fun k => tallystickref01_Gcd.j1 k (a : Int) (b : Int) false) ((Nat.gcd a b : Nat) : Int) := fun a b h ha hb => by
    have e : Nat.gcd a b = a + b := by
      rcases h with rfl | rfl
      · rw [Nat.gcd_zero_left, Nat.zero_add]
      · rw [Nat.gcd_zero_right, Nat.add_zero]
    have e2 : IntKind.u64.wrap ((a : Int) + (b : Int)) = ((a + b : Nat) : Int) := u_nat (a + b) (by omega)
    rw [e]
    exact Ev.succ (Ev.congr (G := fun _ => some ((a + b : Nat) : Int)) (fun k => by rw [tallystickref01_Gcd.j1, if_neg (by decide), e2]) (Ev.const rfl))
  intro s
  induction s using Nat.strongRecOn with
  | _ s ih =>
    intro a b hs ha hb
    rcases Nat.eq_zero_or_pos a with h0 | h0
    · subst h0
      exact Ev.succ (Ev.congr (fun k => by rw [tallystickref01_Gcd.l0, if_pos (show ((0 : Nat) : Int) = 0 from rfl)]) (hend 0 b (.inl rfl) ha hb))
    · rcases Nat.eq_zero_or_pos b with h1 | h1
      · subst h1
        exact Ev.succ (Ev.congr (fun k => by rw [tallystickref01_Gcd.l0, if_neg (by omega)]; rfl) (hend a 0 (.inr rfl) ha hb))
      · have hne : ((b : Int) != 0) = true := by rw [bne_iff_ne]; omega
        have h01 : ¬ ((a : Nat) : Int) = 0 := by omega
        have h11 : ¬ ((b : Nat) : Int) = 0 := by omega
        by_cases c : b ≤ a
        · have hm := Nat.mod_lt a h1
          have e : Nat.gcd (a % b) b = Nat.gcd a b := by rw [← Nat.gcd_rec, Nat.gcd_comm]
          have hi := ih (a % b + b) (by omega) (a % b) b (Nat.le_refl _) (by omega) hb
          rw [e] at hi
          exact Ev.succ (Ev.congr (fun k => by rw [tallystickref01_Gcd.l0, if_neg h01, hne]) (Ev.succ (Ev.congr (fun k => by rw [tallystickref01_Gcd.j1, if_pos rfl, if_pos (show ((a : Nat) : Int) ≥ (b : Int) by omega), if_neg h11]; rfl) hi)))
        · have hm := Nat.mod_lt b h0
          have e : Nat.gcd a (b % a) = Nat.gcd a b := by rw [Nat.gcd_comm, ← Nat.gcd_rec]
          have hi := ih (a + b % a) (by omega) a (b % a) (Nat.le_refl _) ha (by omega)
          rw [e] at hi
          exact Ev.succ (Ev.congr (fun k => by rw [tallystickref01_Gcd.l0, if_neg h01, hne]) (Ev.succ (Ev.congr (fun k => by rw [tallystickref01_Gcd.j1, if_pos rfl, if_neg (show ¬ ((a : Nat) : Int) ≥ (b : Int) by omega), if_neg h01]; rfl) hi)))
theorem refdiv_ev {a b c : Int} (ha : Wd a) (hb : Wd b) (hc : Wd c) : Ev (fun k => tallystickref01_Div.f k a b c) (divW a b c) := by
  unfold tallystickref01_Div.f
  by_cases c0 : c = 0
  · rw [show divW a b c = (0, 0, 2) by unfold divW; rw [if_pos c0]]
    exact Ev.yes c0 (Ev.const rfl)
  · by_cases c1 : c ≤ a
    · rw [show divW a b c = (0, 0, 1) by unfold divW; rw [if_neg c0, if_pos c1]]
      exact Ev.no c0 (Ev.yes c1 (Ev.const rfl))
    · obtain ⟨x, rfl⟩ := Int.eq_ofNat_of_zero_le ha.1
      obtain ⟨y, rfl⟩ := Int.eq_ofNat_of_zero_le hb.1
      obtain ⟨z, rfl⟩ := Int.eq_ofNat_of_zero_le hc.1
      obtain ⟨q, r, hd, _, _, _, hq, hr⟩ := divW_some (x := x) (y := y) (z := z) (by omega) (by have := hb.2; omega)
      rw [hd, hq, hr]
      refine Ev.no c0 (Ev.no c1 ?_)
      exact div01_ev (by omega) (by have := hc.2; omega) 64 0 y 0 x (by omega) (by have := hb.2; omega) (by omega) (by decide) (by rw [Nat.zero_mul, Nat.zero_add])
theorem WordDivides : tallysticklaw01_WordDivides.Pure := by
  intro a b c wa wb wc
  have ha := wd_of wa
  have hb := wd_of wb
  have hc := wd_of wc
  refine Ev.get (F := fun k => tallysticklaw01_WordDivides.f k a b c) ?_
  unfold tallysticklaw01_WordDivides.f
  refine Ev.bind (Ev.const shown1) (Ev.bind (Ev.const (wdiv ha hb hc)) (Ev.bind (refdiv_ev ha hb hc) ?_))
  refine Ev.yes rfl (Ev.yes rfl (Ev.yes rfl (Ev.yes rfl (Ev.bind (Ev.const (wlen hb)) ?_))))
  obtain ⟨y, rfl⟩ := Int.eq_ofNat_of_zero_le hb.1
  obtain ⟨z, rfl⟩ := Int.eq_ofNat_of_zero_le hc.1
  have hl := len01_ev 64 y 0 (by have := hb.2; omega) (by decide) (by decide)
  rw [Nat.zero_add] at hl
  have hg := gcd01_ev (y + z) y z (Nat.le_refl _) (by have := hb.2; omega) (by have := hc.2; omega)
  have hgw := wgcd hb hc
  rw [Int.toNat_natCast, Int.toNat_natCast] at hgw
  refine Ev.bind hl (Ev.yes (by rw [Int.toNat_natCast]) (Ev.bind (Ev.const hgw) (Ev.bind hg (Ev.const ?_))))
  rw [beq_self_eq_true]
end Go.Proofs.Ytnmfinhmhmepdaa.Pure
