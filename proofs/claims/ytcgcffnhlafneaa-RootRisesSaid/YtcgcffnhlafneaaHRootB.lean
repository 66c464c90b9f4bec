/- Texts joined into one: each with its own sentence of what is proved, and under which conditions. -/
import Derived.Test.YtcgcffnhlafneaaHQuotI
/- root.First, Step, Sqrt by hand: where steps begin, a step nearer, a square root and what is left. Conditions: words, not too many. -/
namespace Go.Proofs.Ytcgcffnhlafneaa.Hand
open Go.RowKit Go.Proofs.YtcgcffnhlafneaaW.PrintWords Go.Proofs.YtcgcffnhlafneaaW.PrintMore Go.Proofs.Ytcgcffnhlafneaa.Num
set_option linter.unusedVariables false
set_option linter.unusedSimpArgs false
attribute [local go_sem] Oper.semAt_some max2_int min2_int max_two min_two

/-! ### plain -/
/-- A number's root: the greatest number of which the square is not above it. -/
def isq (a : Nat) : Nat :=
  if _h : 0 < a then (if (2 * isq (a / 4) + 1) * (2 * isq (a / 4) + 1) ≤ a then 2 * isq (a / 4) + 1 else 2 * isq (a / 4)) else 0
termination_by a
decreasing_by all_goals omega
theorem isq_spec (a : Nat) : isq a * isq a ≤ a ∧ a < (isq a + 1) * (isq a + 1) := by
  induction a using Nat.strongRecOn with
  | _ a ih =>
    rcases Nat.eq_zero_or_pos a with h | h
    · subst h; rw [isq]; simp
    · have h1 := ih (a / 4) (by omega)
      rw [isq, dif_pos h]
      generalize isq (a / 4) = r at *
      have e1 : (2 * r + 1) * (2 * r + 1) = 4 * (r * r) + 4 * r + 1 := by
        rw [Nat.add_mul, Nat.mul_add, Nat.mul_mul_mul_comm]; omega
      have e2 : (r + 1) * (r + 1) = r * r + 2 * r + 1 := by rw [Nat.add_mul, Nat.mul_add]; omega
      have e3 : (2 * r) * (2 * r) = 4 * (r * r) := by rw [Nat.mul_mul_mul_comm]
      have e4 : (2 * r + 1 + 1) * (2 * r + 1 + 1) = 4 * (r * r) + 8 * r + 4 := by
        rw [show 2 * r + 1 + 1 = 2 * (r + 1) by omega, Nat.mul_mul_mul_comm, e2]; omega
      rw [e2] at h1
      split
      · rename_i h2
        exact ⟨h2, by rw [e4]; omega⟩
      · rename_i h2
        exact ⟨by rw [e3]; omega, by omega⟩
theorem isq_of {a s : Nat} (h1 : s * s ≤ a) (h2 : a < (s + 1) * (s + 1)) : isq a = s := by
  obtain ⟨g1, g2⟩ := isq_spec a
  rcases Nat.lt_trichotomy (isq a) s with h | h | h
  · have := Nat.mul_le_mul (show isq a + 1 ≤ s from h) (show isq a + 1 ≤ s from h); omega
  · exact h
  · have := Nat.mul_le_mul (show s + 1 ≤ isq a from h) (show s + 1 ≤ isq a from h); omega
theorem isq_mono {a b : Nat} (h : a ≤ b) : isq a ≤ isq b := by
  rcases Nat.lt_or_ge (isq b) (isq a) with h1 | h1
  · have := Nat.mul_le_mul (show isq b + 1 ≤ isq a from h1) (show isq b + 1 ≤ isq a from h1)
    have := (isq_spec a).1
    have := (isq_spec b).2
    omega
  · exact h1
theorem isq_le_self (a : Nat) : isq a ≤ a := by
  have h := (isq_spec a).1
  rcases Nat.eq_zero_or_pos (isq a) with h0 | h0
  · omega
  · exact Nat.le_trans (Nat.le_mul_of_pos_right _ h0) h
/-- Where steps begin. -/
def rfirst (a : Nat) : Nat := 2 ^ ((bl a + 1) / 2)
theorem rfirst_ge (a : Nat) : isq a < rfirst a := by
  have h1 : a < 2 ^ bl a := bl_le.1 (Nat.le_refl _)
  have h2 : a < rfirst a * rfirst a := by
    refine Nat.lt_of_lt_of_le h1 ?_
    unfold rfirst
    rw [← Nat.pow_add]
    exact Nat.pow_le_pow_right (by decide) (by omega)
  rcases Nat.lt_or_ge (isq a) (rfirst a) with h | h
  · exact h
  · have := Nat.mul_le_mul h h
    have := (isq_spec a).1
    omega
/-- Where a step goes. -/
def rstep (x a : Nat) : Nat := (x + a / x) / 2
/-- A step goes not below the root. -/
theorem rstep_ge {x a : Nat} (hx : 0 < x) : isq a ≤ rstep x a := by
  have h := (isq_spec a).1
  unfold rstep
  generalize isq a = s at *
  have h2 : 2 * s ≤ x + a / x := by
    rcases Nat.le_total (2 * s) x with h1 | h1
    · exact Nat.le_trans h1 (Nat.le_add_right _ _)
    · have h3 : (2 * s - x) * x ≤ s * s := by
        rcases Nat.le_total x s with h4 | h4
        · obtain ⟨t, rfl⟩ : ∃ t, s = x + t := ⟨s - x, by omega⟩
          rw [show 2 * (x + t) - x = x + 2 * t by omega, Nat.add_mul, Nat.add_mul, Nat.mul_add, Nat.mul_add, Nat.mul_assoc, Nat.mul_comm t x]
          omega
        · obtain ⟨t, rfl⟩ : ∃ t, x = s + t := ⟨x - s, by omega⟩
          obtain ⟨u, rfl⟩ : ∃ u, s = t + u := ⟨s - t, by omega⟩
          rw [show 2 * (t + u) - (t + u + t) = u by omega, Nat.mul_add, Nat.mul_add, Nat.add_mul, Nat.mul_add, Nat.mul_add, Nat.mul_comm u t]
          omega
      have h4 : 2 * s - x ≤ a / x := (Nat.le_div_iff_mul_le hx).2 (Nat.le_trans h3 h)
      omega
  omega
/-- From above the root a step goes down. -/
theorem rstep_lt {x a : Nat} (hx : isq a < x) : rstep x a < x := by
  have h := (isq_spec a).2
  have h1 := Nat.mul_le_mul (show isq a + 1 ≤ x from hx) (show isq a + 1 ≤ x from hx)
  have h2 : a / x < x := Nat.div_lt_of_lt_mul (by omega)
  unfold rstep
  omega
/-! ### root.First -/
set_option maxRecDepth 100000 in
theorem root_first (A : Option Addr) (la ca : Nat) (a : List Int) (w : World) (ha : Rd w A la a) (hla : la ≤ ca) (hia : InB Num.W a) (hna : la ≤ 1073741824) :
    Calls Try.prog 14 #[.slice A la ca] w (NewPost (dig Num.W (rfirst (val Num.W a))) w) := by
  have hbb := w_bl hia (by rw [ha.1]; exact hna)
  have hL := fun W hr => nat_len A la ca a W hr hla hia (by unfold LIM; omega)
  obtain ⟨Bb, hB⟩ : ∃ B, B = bl (val Num.W a) := ⟨_, rfl⟩
  unfold rfirst
  rw [← hB] at hL hbb ⊢
  obtain ⟨M, hM⟩ : ∃ M, M = (Bb + 1) / 2 := ⟨_, rfl⟩
  rw [← hM]
  have hS := fun W hr => nat_shl (some ⟨w.heap.size, 0, none⟩) 1 1 [1] (M : Int) W hr (Nat.le_refl _) (inB_cons.2 ⟨by rw [W_eq]; omega, inB_nil _⟩) (by omega) (by omega)
  rw [show val Num.W [(1 : Int)] = 1 by rfl, Nat.one_mul, Int.toNat_natCast] at hS
  have e1 : ((Bb : Int) + 1) / 2 = (M : Int) := by omega
  have e2 : ((Bb : Int) + 1).tdiv 2 = (M : Int) := by rw [Int.tdiv_eq_ediv_of_nonneg (by omega)]; exact e1
  have HL := Aside0.mk hL
  have HS := Aside0.mk hS
  have HA := Aside0.mk ha
  clear ha hL hS hia hB hM
  go_enter Try.func14, Try.ntmps14
  go_wp2_with (first
    | ((go_at_call 30); (with_reducible refine (HL.out _ (HA.out.later (below_alloc (Below.refl _ _) _))).mono ?_); (rintro e w1 ⟨rfl, rfl⟩))
    | ((go_at_call 29); (with_reducible refine (HS.out _ (one_rd w)).mono ?_); (rintro e w2 ⟨v, rfl, hv, hb⟩); (have HV := Aside0.mk hv); (have HB := Aside0.mk hb); (clear hv hb)))
  refine bodyPost_ret (results_tmp rfl _ _ _) rfl ?_
  exact ⟨v, rfl, vw_older HV.out (by rw [World.size_alloc]; exact Nat.le_succ _), below_then (below_alloc (Below.refl _ _) _) HB.out⟩
/-! ### root.Step -/
theorem pow_le_of {x n N : Nat} (h : x < Num.W ^ n) (hn : n ≤ N) : x < Num.W ^ N := Nat.lt_of_lt_of_le h (Nat.pow_le_pow_right Num.W_pos hn)
theorem sum_len {x a N : Nat} (hx : x < Num.W ^ N) (ha : a < Num.W ^ N) : (dig Num.W (x + a)).length ≤ N + 1 := dig_len_of_lt (Nat.lt_of_lt_of_le (Nat.add_lt_add hx ha) (by
  rw [Nat.pow_succ, ← Nat.mul_two]
  exact Nat.mul_le_mul_left _ (by decide)))
theorem step_len {x a lx la N : Nat} (hx : x < Num.W ^ lx) (ha : a < Num.W ^ la) (hlx : lx ≤ N) (hla : la ≤ N) : (dig Num.W (x + a / x)).length ≤ N + 1 := sum_len (pow_le_of hx hlx) (Nat.lt_of_le_of_lt (Nat.div_le_self _ _) (pow_le_of ha hla))
/-- What Step leaves. -/
def StepPost (x a : Nat) (w : World) (e : Ending) (w' : World) : Prop := ∃ v : Value, e = .returned (.tuple #[v, .int .i64 (if x = 0 then 2 else 0)]) ∧ Vw w' w.heap.size (fun k => w.heap.size ≤ k) v (if x = 0 then [] else dig Num.W (rstep x a)) ∧ Below w.heap.size w w'
set_option maxRecDepth 100000 in
theorem root_step (X A : Option Addr) (lx cx la ca : Nat) (x a : List Int) (w : World) (hx : Rd w X lx x) (ha : Rd w A la a) (hlx : lx ≤ cx) (hla : la ≤ ca) (hix : InB Num.W x) (hia : InB Num.W a) (hnx : lx ≤ 1073741824) (hna : la ≤ 1073741824) :
    Calls Try.prog 11 #[.slice X lx cx, .slice A la ca] w (StepPost (val Num.W x) (val Num.W a) w) := by
  unfold StepPost
  by_cases h0 : val Num.W x = 0
  · rw [if_pos h0, if_pos h0]
    have HD := Aside0.mk (div_zero (fun _ => True) A X la ca lx cx a x w ha hx hla hlx hia hix h0)
    clear hx ha hix hia h0
    go_enter Try.func11, Try.ntmps11
    go_wp2_with ((go_at_call 25); (with_reducible refine HD.out.mono ?_); (rintro e w1 ⟨v1, v2, rfl, _, _, hb⟩); (have HB := Aside0.mk hb); (clear hb))
    go_ret2
    exact ⟨_, rfl, Vw.nil _ _ _, HB.out⟩
  · rw [if_neg h0, if_neg h0]
    have hp := Nat.pos_of_ne_zero h0
    have hd := quot_div (fun _ => True) A X la ca lx cx a x w (Vw.of_Rd ha hla (fun _ _ _ => trivial)) hx hlx hia hix (by omega) (by omega) hp
    have hql : (dig Num.W (val Num.W a / val Num.W x)).length ≤ la := dig_len_of_lt (Nat.lt_of_le_of_lt (Nat.div_le_self _ _) (by have := val_lt Num.W_pos hia; rwa [ha.1] at this))
    have had := fun W Q cq h1 h2 => nat_add X Q lx (dig Num.W (val Num.W a / val Num.W x)).length cx cq x (dig Num.W (val Num.W a / val Num.W x)) W h1 h2 hix (dig_inB Num.W_gt _) (by omega) (by omega)
    simp only [val_dig Num.W_gt] at had
    have hxl := val_lt Num.W_pos hix
    have hal := val_lt Num.W_pos hia
    rw [hx.1] at hxl
    rw [ha.1] at hal
    have hsl : (dig Num.W (val Num.W x + val Num.W a / val Num.W x)).length ≤ 1073741825 := step_len (N := 1073741824) hxl hal hnx hna
    have hsh := fun W Q cq h1 h2 => nat_shr Q (dig Num.W (val Num.W x + val Num.W a / val Num.W x)).length cq (dig Num.W (val Num.W x + val Num.W a / val Num.W x)) 1 W h1 h2 (dig_inB Num.W_gt _) (by omega) (by omega)
    simp only [val_dig Num.W_gt] at hsh
    have hst : (val Num.W x + val Num.W a / val Num.W x) / 2 ^ (1 : Int).toNat = rstep (val Num.W x) (val Num.W a) := by
      rw [show (1 : Int).toNat = 1 by decide, Nat.pow_one]; rfl
    have hsh1 := fun W Q cq h1 h2 => hst ▸ hsh W Q cq h1 h2
    clear hsh
    have hsh := hsh1
    clear hsh1
    have HX := Aside0.mk hx
    have HD := Aside0.mk hd
    have HAD := Aside0.mk had
    have HSH := Aside0.mk hsh
    clear hx ha hix hia h0 hp hd hql had hxl hal hsl hsh hst
    go_enter Try.func11, Try.ntmps11
    go_wp2_with (first
      | ((go_at_call 25); (with_reducible refine HD.out.mono ?_); (rintro e w1 ⟨v1, v2, rfl, hv, _, hb⟩); (obtain ⟨Q, cq, rfl, hcq, hrq⟩ := hv.reads); (have HQ := Aside0.mk hrq); (have HB := Aside0.mk hb); (clear hv hb hrq hcq))
      | ((go_at_call 27); (with_reducible refine (HAD.out _ _ _ (HX.out.later HB.out) HQ.out).mono ?_); (rintro e w2 ⟨v3, rfl, hv, hb2⟩); (obtain ⟨R, cr, rfl, hcr, hrr⟩ := hv.reads); (have HR := Aside0.mk hrr); (have HC := Aside0.mk hcr); (have HB2 := Aside0.mk hb2); (clear hv hb2 hrr hcr))
      | ((go_at_call 26); (with_reducible refine (HSH.out _ _ _ HR.out HC.out).mono ?_); (rintro e w3 ⟨v4, rfl, hv, hb3⟩); (have HV := Aside0.mk hv); (have HB3 := Aside0.mk hb3); (clear hv hb3)))
    go_ret2
    exact ⟨_, rfl, vw_older HV.out (below_then HB.out HB2.out).size, below_then (below_then HB.out HB2.out) HB3.out⟩
end Go.Proofs.Ytcgcffnhlafneaa.Hand

/- root.Sqrt by hand: a square root, and what is left. Conditions: words, not too many. -/
namespace Go.Proofs.Ytcgcffnhlafneaa.Hand
open Go.RowKit Go.Proofs.YtcgcffnhlafneaaW.PrintWords Go.Proofs.YtcgcffnhlafneaaW.PrintMore Go.Proofs.Ytcgcffnhlafneaa.Num
set_option linter.unusedVariables false
set_option linter.unusedSimpArgs false
attribute [local go_sem] Oper.semAt_some max2_int min2_int max_two min_two

def root_First.f (l0 : List Int) : Option (List Int) := if inb l0 = true ∧ l0.length ≤ PLIM then some (dig W (rfirst (val W l0))) else none
def root_Step.f (l0 l1 : List Int) : Option (List Int × Int) := if inb l0 = true ∧ inb l1 = true ∧ l0.length ≤ PLIM ∧ l1.length ≤ PLIM then some (if val W l0 = 0 then ([], 2) else (dig W (rstep (val W l0) (val W l1)), 0)) else none
def RLIM : Nat := 1073741800
def root_Sqrt.f (l0 : List Int) : Option (List Int × List Int) := if inb l0 = true ∧ l0.length ≤ RLIM then some (dig W (isq (val W l0)), dig W (val W l0 - isq (val W l0) * isq (val W l0))) else none
theorem root_First.calls (A0 : Option Addr) (c0 : Nat) (l0 : List Int) (r : List Int) (w : World)
    (hr0 : Kd.C (Kd.int .u64) w A0 l0.length l0) (hc0 : l0.length ≤ c0) (h : root_First.f l0 = some r) :
    Calls Try.prog 14 #[.slice A0 l0.length c0] w fun e w' => ∃ v0_ : Value, e = .returned (v0_) ∧ Kd.V (Kd.int .u64) 39 w' w.heap.size (fun k_ => (w.heap.size ≤ k_)) v0_ r ∧ Below w.heap.size w w' := by
  unfold root_First.f at h
  split at h
  · rename_i hi
    have hq : PLIM = 1073741824 := rfl
    rw [hq] at hi
    cases h
    exact calls_of_new (root_first A0 _ c0 l0 w (Rd.of_C hr0) hc0 (inb_iff.1 hi.1) hi.2)
  · cases h
theorem root_Step.calls (A0 : Option Addr) (c0 : Nat) (l0 : List Int) (A1 : Option Addr) (c1 : Nat) (l1 : List Int) (r1 : List Int) (r2 : Int) (w : World)
    (hr0 : Kd.C (Kd.int .u64) w A0 l0.length l0) (hc0 : l0.length ≤ c0) (hr1 : Kd.C (Kd.int .u64) w A1 l1.length l1) (hc1 : l1.length ≤ c1) (h : root_Step.f l0 l1 = some (r1, r2)) :
    Calls Try.prog 11 #[.slice A0 l0.length c0, .slice A1 l1.length c1] w fun e w' => ∃ v0_ : Value, e = .returned (.tuple #[v0_, .int .i64 r2]) ∧ Kd.V (Kd.int .u64) 39 w' w.heap.size (fun k_ => (w.heap.size ≤ k_)) v0_ r1 ∧ Below w.heap.size w w' := by
  unfold root_Step.f at h
  split at h
  · rename_i hi
    have hq : PLIM = 1073741824 := rfl
    rw [hq] at hi
    have hs := root_step A0 A1 _ c0 _ c1 l0 l1 w (Rd.of_C hr0) (Rd.of_C hr1) hc0 hc1 (inb_iff.1 hi.1) (inb_iff.1 hi.2.1) hi.2.2.1 hi.2.2.2
    unfold StepPost at hs
    split at h
    · rename_i hz
      simp only [Option.some.injEq, Prod.mk.injEq] at h
      obtain ⟨rfl, rfl⟩ := h
      rwa [if_pos hz, if_pos hz] at hs
    · rename_i hz
      simp only [Option.some.injEq, Prod.mk.injEq] at h
      obtain ⟨rfl, rfl⟩ := h
      rwa [if_neg hz, if_neg hz] at hs
  · cases h
/-- What Sqrt leaves. -/
def SqrtPost (s r : List Int) (w : World) (e : Ending) (w' : World) : Prop := ∃ v1 v2 : Value, e = .returned (.tuple #[v1, v2]) ∧ Vw w' w.heap.size (fun k => w.heap.size ≤ k) v1 s ∧ Vw w' w.heap.size (fun k => w.heap.size ≤ k) v2 r ∧ Below w.heap.size w w'
set_option maxRecDepth 100000 in
set_option maxHeartbeats 1000000 in
theorem sqrt1 (B D : Nat) (A X : Option Addr) (la ca cx x : Nat) (a : List Int) (w : World) (hB : w.cell? ⟨B, 0, none⟩ = some (.slice A la ca)) (hD : w.cell? ⟨D, 0, none⟩ = some (.slice X (dig Num.W x).length cx))
    (ha : Rd w A la a) (hia : InB Num.W a) (hna : la ≤ 1073741824) (hx : Rd w X (dig Num.W x).length (dig Num.W x)) (hxc : (dig Num.W x).length ≤ cx) (hnx : (dig Num.W x).length ≤ 1073741824) (hle : x * x ≤ val Num.W a) :
    Calls Try.prog 33 #[.pointer (some ⟨B, 0, none⟩), .pointer (some ⟨D, 0, none⟩)] w (NewPost (dig Num.W (val Num.W a - x * x)) w) := by
  have hs : ∀ W, Rd W X (dig Num.W x).length (dig Num.W x) → Calls Try.prog 35 #[.slice X (dig Num.W x).length cx] W (NewPost (dig Num.W (x * x)) W) := fun W h1 => prod_Square.calls X cx (dig Num.W x) (dig Num.W (x * x)) W (Rd.to_C h1) hxc (by
    unfold prod_Square.f PLIM
    rw [if_pos ⟨inb_iff.2 (dig_inB Num.W_gt _), hnx⟩, val_dig Num.W_gt])
  have hal := val_lt Num.W_pos hia
  rw [ha.1] at hal
  have hxl : (dig Num.W (x * x)).length ≤ la := dig_len_of_lt (Nat.lt_of_le_of_lt hle hal)
  have hsb := fun W Q cq h1 h2 => nat_sub A Q la (dig Num.W (x * x)).length ca cq a (dig Num.W (x * x)) W h1 h2 hia (dig_inB Num.W_gt _) (by omega) (by omega)
  simp only [val_dig Num.W_gt] at hsb
  unfold SubPost at hsb
  simp only [if_neg (show ¬ val Num.W a < x * x by omega)] at hsb
  have HS := Aside0.mk (hs w.drew hx)
  have HSB := Aside0.mk hsb
  have HA := Aside0.mk ha
  have q1 : w.drew.cell? ⟨B, 0, none⟩ = _ := hB
  have q2 : w.drew.cell? ⟨D, 0, none⟩ = _ := hD
  have Q1 := Aside0.mk q1
  have Q2 := Aside0.mk q2
  clear hs hsb hal hxl ha hx hia hle hB hD q1 q2
  generalize (dig Num.W x).length = LX at *
  go_enter Try.func33, Try.ntmps33
  go_wp2
  go_region_held3 (fun w' => w'.cell? ⟨B, 0, none⟩ = some (.slice A la ca) ∧ w'.cell? ⟨D, 0, none⟩ = some (.slice X LX cx)) (first | (exact ⟨Q1.out, Q2.out⟩) | (exact ⟨cell_later Q1.out HB1.out, cell_later Q2.out HB1.out⟩) | (exact ⟨cell_later (cell_later Q1.out HB1.out) HB2.out, cell_later (cell_later Q2.out HB1.out) HB2.out⟩))
    (first
      | ((go_at_call 35); (with_reducible refine HS.out.mono ?_); (rintro e w1 ⟨v1, rfl, hv, hb⟩); (obtain ⟨Q, cq, rfl, hcq, hrq⟩ := hv.reads); (have HQ := Aside0.mk hrq); (have HB1 := Aside0.mk hb); (clear hv hb hrq hcq))
      | ((go_at_call 34); (with_reducible refine (HSB.out w1 Q cq (Rd.later (Rd.drew HA.out) HB1.out) HQ.out).mono ?_); (rintro e w2 ⟨⟨v2, rfl, hv⟩, hb2⟩); (have HV := Aside0.mk hv); (have HB2 := Aside0.mk hb2); (clear hv hb2)))
  all_goals
    go_wp2
    refine bodyPost_ret (results_tmp rfl _ _ _) rfl ?_
    exact ⟨v2, rfl, vw_older HV.out (show w.heap.size ≤ _ from HB1.out.size), below_then (show Below w.heap.size w w1 from (show Below w.heap.size w w.drew from (Below.refl _ w).drew).trans HB1.out) HB2.out⟩
/-! ### the root's walk -/
theorem Vw.kept {w w' : World} {base base' : Nat} {ok : Nat → Prop} {v : Value} {l : List Int} (h : Vw w base ok v l) (hs : w.heap.size ≤ w'.heap.size) (hb : ∀ j, ok j → j < w.heap.size → w'.heap[j]? = w.heap[j]?) : Vw w' base' ok v l := by
  obtain ⟨A, c, rfl, hc, hf⟩ := h
  exact ⟨A, c, rfl, hc, fun W' hW => hf W' fun j hj hlt => (hW j hj (Nat.lt_of_lt_of_le hlt hs)).trans (hb j hj hlt)⟩
/-- A step's state: the two boxes, the guess. -/
structure RootSt (v : Nat) (A : Option Addr) (la ca : Nat) (w : World) (B k : Nat) (wr : World) : Prop where
  ba : Boxed wr w.heap.size 22 (.slice A la ca)
  bx : ∃ X c, Boxed wr B 22 (.slice X (dig Num.W k).length c) ∧ Vw wr w.heap.size (fun j => w.heap.size ≤ j ∧ j ≠ B) (.slice X (dig Num.W k).length c) (dig Num.W k)
  lt : w.heap.size < B
  ge : isq v ≤ k
  len : (dig Num.W k).length ≤ 1073741824
  hb : Below w.heap.size w wr
theorem rootSt_first {v la ca c N : Nat} {A X : Option Addr} {w w1 : World} {o : Obj} (hn : (dig Num.W (rfirst v)).length ≤ 1073741824) (ho : o = .cells #[.slice A la ca] 22) (hb : Below (w.alloc o).heap.size (w.alloc o) w1) (hv : Vw w1 N (fun k => (w.alloc o).heap.size ≤ k) (.slice X (dig Num.W (rfirst v)).length c) (dig Num.W (rfirst v))) :
    RootSt v A la ca w w1.heap.size (rfirst v) (w1.alloc (.cells #[.slice X (dig Num.W (rfirst v)).length c] 22)) := by
  have hs := hb.size
  rw [World.size_alloc] at hs
  subst ho
  refine ⟨(show Boxed w1 w.heap.size _ _ from blk_below (blk_new w _) hb).alloc _, ⟨X, c, Boxed.new _ _ _, ?_⟩, by omega, Nat.le_of_lt (rfirst_ge v), hn, below_then (below_alloc (Below.refl _ _) _) (hb.alloc (by rw [World.size_alloc]; exact hs) _)⟩
  obtain ⟨A', c', e, hc, hf⟩ := hv
  refine ⟨A', c', e, hc, fun W' hW => hf W' fun j hj hlt => ?_⟩
  rw [World.size_alloc] at hj
  rw [hW j ⟨by omega, by omega⟩ (by rw [World.size_alloc]; omega)]
  exact Below.heap_alloc _ _ _ hlt
theorem rootSt_step {V la ca k y c N : Nat} {A Y : Option Addr} {w wr w2 : World} {B : Nat} (h : RootSt V A la ca w B k wr) (hv : Vw w2 N (fun j => wr.heap.size ≤ j) (.slice Y (dig Num.W y).length c) (dig Num.W y)) (hb : Below wr.heap.size wr w2) (hge : isq V ≤ y) (hl : (dig Num.W y).length ≤ 1073741824) :
    RootSt V A la ca w B y (w2.setCell ⟨B, 0, none⟩ (.slice Y (dig Num.W y).length c)) := by
  obtain ⟨X, c0, hbx, _⟩ := h.bx
  have hB := hbx.lt
  have hs := h.hb.size
  have hbx2 : Boxed w2 B _ _ := blk_below hbx hb
  refine ⟨(show Boxed w2 w.heap.size _ _ from blk_below h.ba hb).other (Nat.ne_of_lt h.lt) _, ⟨Y, c, hbx2.set _, ?_⟩, h.lt, hge, hl, (below_then h.hb hb).setCell (p := ⟨B, 0, none⟩) (Nat.le_of_lt h.lt) _⟩
  obtain ⟨A', c', e, hc, hf⟩ := hv
  refine ⟨A', c', e, hc, fun W' hW => hf W' fun j hj hlt => ?_⟩
  have hj2 : w.heap.size ≤ j ∧ j ≠ B := ⟨by omega, by omega⟩
  have e2 : (w2.setCell ⟨B, 0, none⟩ (.slice Y (dig Num.W y).length c)).heap[j]? = w2.heap[j]? := Below.heap_setCell _ _ _ _ (by simpa using hj2.2)
  rw [hW j hj2 (by simpa [World.setCell] using hlt), e2]
theorem rfirst_lenm {a : List Int} {m N : Nat} (h : InB Num.W a) (hn : a.length ≤ m) (hm : 64 * m + 1 < 128 * N) : (dig Num.W (rfirst (val Num.W a))).length ≤ N := dig_len_of_lt (by
  have h1 := w_blm h hn
  unfold rfirst
  rw [W_pow]
  exact Nat.pow_lt_pow_right (by decide) (by omega))
theorem rfirst_len {a : List Int} (h : InB Num.W a) (hn : a.length ≤ 1073741800) : (dig Num.W (rfirst (val Num.W a))).length ≤ 1073741824 := rfirst_lenm (m := 1073741800) (N := 1073741824) h hn (by omega)
set_option maxRecDepth 100000 in
set_option maxHeartbeats 1000000 in
theorem root_sqrt (A : Option Addr) (la ca : Nat) (a : List Int) (w : World) (ha : Rd w A la a) (hla : la ≤ ca) (hia : InB Num.W a) (hna : la ≤ 1073741800) :
    Calls Try.prog 16 #[.slice A la ca] w (SqrtPost (dig Num.W (isq (val Num.W a))) (dig Num.W (val Num.W a - isq (val Num.W a) * isq (val Num.W a))) w) := by
  have hfi := fun W h => root_first A la ca a W h hla hia (by omega)
  have hst := fun (W : World) (X : Option Addr) (c k : Nat) (h : Rd W A la a) (hx : Rd W X (dig Num.W k).length (dig Num.W k)) (hc : (dig Num.W k).length ≤ c) (hk : (dig Num.W k).length ≤ 1073741824) => by
    have h1 := root_step X A (dig Num.W k).length c la ca (dig Num.W k) a W hx h hc hla (dig_inB Num.W_gt _) hia hk (by omega)
    rw [val_dig Num.W_gt] at h1
    exact h1
  have hcm := fun (W : World) (X Y : Option Addr) (c d k m : Nat) (hx : Rd W X (dig Num.W k).length (dig Num.W k)) (hy : Rd W Y (dig Num.W m).length (dig Num.W m)) => by
    have h1 := nat_cmp Y X (dig Num.W m).length (dig Num.W k).length d c _ _ W hy hx (dig_inB Num.W_gt _) (dig_inB Num.W_gt _)
    rw [val_dig Num.W_gt, val_dig Num.W_gt] at h1
    exact h1
  have hs1 := fun (W : World) (B D : Nat) (X : Option Addr) (cx k : Nat) h1 h2 (h : Rd W A la a) (hx : Rd W X (dig Num.W k).length (dig Num.W k)) hc hk hle => sqrt1 B D A X la ca cx k a W h1 h2 h hia (by omega) hx hc hk hle
  have hrl := rfirst_len hia (by rw [ha.1]; exact hna)
  have hsp := isq_spec (val Num.W a)
  obtain ⟨V, hV⟩ : ∃ V, V = val Num.W a := ⟨_, rfl⟩
  rw [← hV] at hfi hst hs1 hrl hsp ⊢
  have HF := Aside0.mk hfi
  have HST := Aside0.mk hst
  have HCM := Aside0.mk hcm
  have HS1 := Aside0.mk hs1
  have HRL := Aside0.mk hrl
  have HSP := Aside0.mk hsp
  have HA := Aside0.mk ha
  clear ha hfi hst hcm hs1 hrl hV hia hsp
  go_enter Try.func16, Try.ntmps16
  go_wp2
  refine wp_scope_straight ?_
  refine wp_seq_k ?_
  intro K1 hK1
  go_cut [4] from 8 (fun b4 wr => ∃ B, b4 = .pointer (some ⟨B, 0, none⟩) ∧ Aside0 (RootSt V A la ca w B (rfirst V) wr))
  case first =>
    go_wp2_with ((go_at_call 14); (with_reducible refine (HF.out _ (HA.out.later (by (repeat (with_reducible first | apply Below.refl | apply below_drew | apply below_alloc)); done))).mono ?_); (rintro e w1 ⟨v, rfl, hv, hb⟩); (obtain ⟨X, c, rfl, hcx, hrx⟩ := hv.reads))
    go_meet
    case rel => exact ⟨w1.heap.size, rfl, ⟨rootSt_first HRL.out rfl hb hv⟩⟩
  case rest =>
    obtain ⟨B, rfl, HRS⟩ := hcut
    apply hK1
    go_wp2
    refine wp_label ?_
    go_wp2
    go_loopg [] (rfirst V) (fun k wr => Aside0 (RootSt V A la ca w B k wr))
    case atStart => exact HRS
    case round =>
      obtain ⟨X, c, HBX, HVX⟩ := hrel.out.bx
      have HVF := Aside0.mk HVX
      obtain ⟨X', c', e', hxc, hxf⟩ := HVX
      have HBA := hrel.out.ba
      have HB := hrel.out.hb
      have HGE := hrel.out.ge
      injection e' with e1 e2 e3
      subst e1; subst e3
      have HX := Aside0.mk (Rd.of_C (Kd.F_now hxf))
      have HXF := Aside0.mk hxf
      have q1 := HBA.cell
      have q2 := HBX.cell
      have hst := HST.out wr X c gk (HA.out.later HB) HX.out hxc hrel.out.len
      have hlen := hrel.out.len
      have hltB := hrel.out.lt
      have HBW := Aside0.mk HB
      have Q1 := Aside0.mk q1
      have Q2 := Aside0.mk q2
      unfold StepPost at hst
      have hle0 : isq V = gk → gk * gk ≤ V := fun e => e ▸ HSP.out.1
      rcases Nat.eq_zero_or_pos gk with h0 | h0
      · have hi : isq V = gk := by omega
        have hle := hle0 hi
        rw [if_pos h0, if_pos h0] at hst
        have HS := Aside0.mk hst
        have HI := Aside0.mk hi
        have HLE := Aside0.mk hle
        clear hst hrel HBX HBA HB HGE HXF hxf hle0 h0 hi hle
        go_wp2_with ((go_at_call 11); (with_reducible refine HS.out.mono ?_); (rintro e w1 ⟨v1, rfl, hv, hb⟩); (obtain ⟨Q, cq, rfl, hcq, hrq⟩ := hv.reads); (have HB1 := Aside0.mk hb); (have R1 := Aside0.mk (cell_later q1 hb)); (have R2 := Aside0.mk (cell_later q2 hb)); (have HX1 := Aside0.mk (HX.out.later hb)); (have HA1 := Aside0.mk ((HA.out.later HBW.out).later hb)); (clear hv hb hrq hcq))
        clear q1 q2
        · have D1 : Aside0 (w1.drew.cell? ⟨w.heap.size, 0, none⟩ = some (.slice A la ca)) := ⟨R1.out⟩
          have D2 : Aside0 (w1.drew.cell? ⟨B, 0, none⟩ = some (.slice X (dig Num.W gk).length c)) := ⟨R2.out⟩
          have HS9 := Aside0.mk (HS1.out w1.drew w.heap.size B X c gk D1.out D2.out HA1.out.drew HX1.out.drew hxc hlen HLE.out)
          go_region_held3 (fun w' => w'.cell? ⟨B, 0, none⟩ = some (.slice X (dig Num.W gk).length c)) (first | exact D2.out | exact cell_later D2.out HB9.out)
            (first | ((go_at_call 33); (with_reducible refine HS9.out.mono ?_); (rintro e w9 ⟨v9, rfl, hv, hb9⟩); (have HV9 := Aside0.mk hv); (have HB9 := Aside0.mk hb9); (clear hv hb9)))
          go_wp2
          rw [Exit.noGoto_ret]
          refine bodyPost_ret (results_tmp2 rfl _ _ _) rfl ?_
          have HB10 := Aside0.mk (show Below w1.heap.size w1 w9 from (show Below w1.heap.size w1 w1.drew from (Below.refl _ w1).drew).trans HB9.out)
          rw [HI.out]
          exact ⟨_, v9, rfl, Kd.V_mono (Kd.V_below HVF.out (below_then HB1.out HB10.out)) (fun k h => h.1), vw_older HV9.out (show w.heap.size ≤ _ from (below_then HBW.out HB1.out).size), below_then HBW.out (below_then HB1.out HB10.out)⟩
      · have hst2 := hst
        rw [if_neg (by omega), if_neg (by omega)] at hst2
        have hgt : 0 < gk := h0
        have hq : isq V < gk → rstep gk V < gk := fun h => rstep_lt h
        have hge2 : isq V ≤ rstep gk V := rstep_ge h0
        generalize rstep gk V = y at *
        have hc := fun W Y c d h1 h2 => HCM.out W X Y c d gk y h1 h2
        by_cases hlt : y < gk
        · have hyl : (dig Num.W y).length ≤ 1073741824 := Nat.le_trans (dig_len_of_lt (Nat.lt_trans hlt (by have h1 := val_lt Num.W_pos (dig_inB Num.W_gt gk); rwa [val_dig Num.W_gt] at h1))) hlen
          have hcv : cmpv y gk = -1 := by unfold cmpv; rw [if_pos hlt]
          rw [hcv] at hc
          have HC := Aside0.mk hc
          have HS := Aside0.mk hst2
          have HLT := Aside0.mk hlt
          have HGE2 := Aside0.mk hge2
          have HRR := hrel
          have HBXA := Aside0.mk HBX
          clear hst hst2 hrel HBX HBA HB HGE HXF hxf hle0 h0 hlt hcv hc hgt hge2 hq
          go_wp2_with (first
            | ((go_at_call 11); (with_reducible refine HS.out.mono ?_); (rintro e w1 ⟨v1, rfl, hv, hb⟩); (obtain ⟨Q, cq, rfl, hcq, hrq⟩ := hv.reads); (have HB1 := Aside0.mk hb); (have HV1 := Aside0.mk hv); (have r1 := cell_later q1 hb); (have r2 := cell_later q2 hb); (have HX1 := Aside0.mk (HX.out.later hb)); (have HA1 := Aside0.mk ((HA.out.later HBW.out).later hb)); (have HQ1 := Aside0.mk hrq); (clear hv hb hrq hcq))
            | ((go_at_call 36); (with_reducible refine (HC.out _ Q _ _ HX1.out HQ1.out).mono ?_); (rintro e w2 ⟨rfl, hb⟩); (have HB2 := Aside0.mk hb); (have s1 := cell_later r1 hb); (have s2 := cell_later r2 hb); (have f2 := Boxed.frozen (show Boxed w2 B _ _ from blk_below (blk_below HBXA.out HB1.out) hb)); (clear hb)))
          go_roundg y
          case measure => exact HLT.out
          case rel => exact ⟨rootSt_step HRR.out (Kd.V_below HV1.out HB2.out) (below_then HB1.out HB2.out) HGE2.out hyl⟩
        · have hi : isq V = gk := by
            have h1 := hrel.out.ge
            rcases Nat.lt_or_ge (isq V) gk with h | h
            · exact absurd (hq h) hlt
            · omega
          have hle := hle0 hi
          have hcv : 0 ≤ cmpv y gk := by unfold cmpv; rw [if_neg hlt]; split <;> omega
          generalize cmpv y gk = cv at *
          have HC := Aside0.mk hc
          have HS := Aside0.mk hst2
          have HI := Aside0.mk hi
          have HLE := Aside0.mk hle
          clear hst hst2 hrel HBX HBA HB HGE HXF hxf hle0 h0 hlt hc hgt hge2 hq hi hle
          go_wp2_with (first
            | ((go_at_call 11); (with_reducible refine HS.out.mono ?_); (rintro e w1 ⟨v1, rfl, hv, hb⟩); (obtain ⟨Q, cq, rfl, hcq, hrq⟩ := hv.reads); (have HB1 := Aside0.mk hb); (have r1 := cell_later q1 hb); (have r2 := cell_later q2 hb); (have HX1 := Aside0.mk (HX.out.later hb)); (have HA1 := Aside0.mk ((HA.out.later HBW.out).later hb)); (have HQ1 := Aside0.mk hrq); (clear hv hb hrq hcq))
            | ((go_at_call 36); (with_reducible refine (HC.out _ Q _ _ HX1.out HQ1.out).mono ?_); (rintro e w2 ⟨rfl, hb⟩); (have HB2 := Aside0.mk (below_then HB1.out hb)); (have R1 := Aside0.mk (cell_later r1 hb)); (have R2 := Aside0.mk (cell_later r2 hb)); (have HX2 := Aside0.mk (HX1.out.later hb)); (have HA2 := Aside0.mk (HA1.out.later hb)); (clear hb)))
          clear q1 q2 r1 r2
          have D1 : Aside0 (w2.drew.cell? ⟨w.heap.size, 0, none⟩ = some (.slice A la ca)) := ⟨R1.out⟩
          have D2 : Aside0 (w2.drew.cell? ⟨B, 0, none⟩ = some (.slice X (dig Num.W gk).length c)) := ⟨R2.out⟩
          have HS9 := Aside0.mk (HS1.out w2.drew w.heap.size B X c gk D1.out D2.out HA2.out.drew HX2.out.drew hxc hlen HLE.out)
          go_region_held3 (fun w' => w'.cell? ⟨B, 0, none⟩ = some (.slice X (dig Num.W gk).length c)) (first | exact D2.out | exact cell_later D2.out HB9.out)
            (first | ((go_at_call 33); (with_reducible refine HS9.out.mono ?_); (rintro e w9 ⟨v9, rfl, hv, hb9⟩); (have HV9 := Aside0.mk hv); (have HB9 := Aside0.mk hb9); (clear hv hb9)))
          go_wp2
          rw [Exit.noGoto_ret]
          refine bodyPost_ret (results_tmp2 rfl _ _ _) rfl ?_
          have HB10 := Aside0.mk (show Below w2.heap.size w2 w9 from (show Below w2.heap.size w2 w2.drew from (Below.refl _ w2).drew).trans HB9.out)
          rw [HI.out]
          exact ⟨_, v9, rfl, Kd.V_mono (Kd.V_below HVF.out (below_then HB2.out HB10.out)) (fun k h => h.1), vw_older HV9.out (show w.heap.size ≤ _ from (below_then HBW.out HB2.out).size), below_then HBW.out (below_then HB2.out HB10.out)⟩
theorem root_Sqrt.calls (A0 : Option Addr) (c0 : Nat) (l0 : List Int) (r1 r2 : List Int) (w : World)
    (hr0 : Kd.C (Kd.int .u64) w A0 l0.length l0) (hc0 : l0.length ≤ c0) (h : root_Sqrt.f l0 = some (r1, r2)) :
    Calls Try.prog 16 #[.slice A0 l0.length c0] w fun e w' => ∃ v0_ v1_ : Value, e = .returned (.tuple #[v0_, v1_]) ∧ Kd.V (Kd.int .u64) 39 w' w.heap.size (fun k_ => (w.heap.size ≤ k_)) v0_ r1 ∧ Kd.V (Kd.int .u64) 39 w' w.heap.size (fun k_ => (w.heap.size ≤ k_)) v1_ r2 ∧ Below w.heap.size w w' := by
  unfold root_Sqrt.f at h
  split at h
  · rename_i hi
    have hq : RLIM = 1073741800 := rfl
    rw [hq] at hi
    have hs := root_sqrt A0 _ c0 l0 w (Rd.of_C hr0) hc0 (inb_iff.1 hi.1) hi.2
    unfold SqrtPost at hs
    simp only [Option.some.injEq, Prod.mk.injEq] at h
    obtain ⟨rfl, rfl⟩ := h
    exact hs
  · cases h
end Go.Proofs.Ytcgcffnhlafneaa.Hand
