/- Texts joined into one: each with its own sentence of what is proved, and under which conditions. -/
import Derived.Test.YtaakniobgljniaaDoorHTrioE
import Derived.Test.YtaakniobgljniaaDoorHDivA
import Derived.Test.YtaakniobgljniaaDoorPa4
import Derived.Test.YtaakniobgljniaaDoorHTrioF
import Derived.RangeFuncRecord
import Derived.Test.YtaakniobgljniaaDoorRows
import Derived.ProofKit
import Derived.LaidMore
import Derived.OpenShut
import Derived.MakeChecks
/- Texts joined into one: each with its own sentence of what is proved, and under which conditions. -/
/- trio.Join, mod, Split by hand: what they answer, in plain numbers; and that numbers below the three primes' product are told by what they are modulo the primes. -/
namespace Go.Proofs.YtaakniobgljniaaDoor.Hand
open Go.Proofs.YtaakniobgljniaaDoor.Fermat Go.RowKit Go.Proofs.YtaakniobgljniaaDoorW.PrintWords Go.Proofs.YtaakniobgljniaaDoorW.PrintMore Go.Proofs.YtaakniobgljniaaDoor.Pa
set_option linter.unusedVariables false
set_option linter.unusedSimpArgs false
attribute [local go_sem] Oper.semAt_some max2_int min2_int max_two min_two

/-- What divides by the first prime modulo the second, and by both modulo the third. -/
def i1 : Nat := 47450712
def i2 : Nat := 115990628
def jy (a b : Nat) : Nat := ((b % 167772161 + 167772161 - a % 998244353 % 167772161) % 167772161) * (i1 % 167772161) % 167772161
def jv (a b : Nat) : Nat := a % 998244353 + 998244353 * jy a b
def jz (a b c : Nat) : Nat := ((c % 469762049 + 469762049 - jv a b % 469762049) % 469762049) * (i2 % 469762049) % 469762049
/-- The number that is joined. -/
def jn (a b c : Nat) : Nat := jv a b + 167477612308856833 * jz a b c
theorem jy_lt (a b : Nat) : jy a b < 167772161 := Nat.mod_lt _ (by decide)
theorem jz_lt (a b c : Nat) : jz a b c < 469762049 := Nat.mod_lt _ (by decide)
theorem jv_lt (a b : Nat) : jv a b < 167477612308856833 := by
  have h1 := jy_lt a b
  have h2 : a % 998244353 < 998244353 := Nat.mod_lt _ (by decide)
  unfold jv
  omega
theorem jn_lt (a b c : Nat) : jn a b c < 78674626319836206717730817 := by
  have h1 := jz_lt a b c
  have h2 := jv_lt a b
  unfold jn
  omega
theorem inv_mod {p a i : Nat} (h : a * i % p = 1) (x : Nat) : a * (x % p * (i % p) % p) % p = x % p := by
  rw [← Nat.mul_mod x, Nat.mul_mod a, Nat.mod_mod, ← Nat.mul_mod, Nat.mul_comm x, ← Nat.mul_assoc, Nat.mul_mod, h, Nat.one_mul, Nat.mod_mod]
theorem inverse_lit {m a i : Nat} (h : m % 2 = 1) (h3 : 3 ≤ m) (hl : m < 2147483648) (ha : a < 18446744073709551616) (he : pm m a 31 (m - 2) = i) : trio_inverse.f 65 (a : Int) (m : Int) = some (i : Int) := by
  rw [inverse_is h h3 hl 65 a (by decide) ha, ← pm_is m 31 (m - 2) a (by omega), he]
theorem joined_mod {p a i v c : Nat} (hp : 0 < p) (h : a * i % p = 1) : (v + a * ((c % p + p - v % p) % p * (i % p) % p)) % p = c % p := by
  have h1 := inv_mod h (c % p + p - v % p)
  have h2 : v % p < p := Nat.mod_lt _ hp
  have e : v % p + (c % p + p - v % p) = c % p + p := by
    generalize v % p = x at *
    generalize c % p = y at *
    omega
  rw [Nat.add_mod, h1, Nat.add_mod_mod, e, Nat.add_mod_right, Nat.mod_mod]
theorem add_far {p v k : Nat} (q : Nat) (hk : k = p * q) (z : Nat) : (v + k * z) % p = v % p := by
  rw [hk, Nat.mul_assoc, Nat.add_mul_mod_self_left]
theorem jv_a (a b : Nat) : jv a b % 998244353 = a % 998244353 := by
  have h := add_far (p := 998244353) (v := a % 998244353) 1 (Nat.mul_one 998244353).symm (jy a b)
  exact h.trans (Nat.mod_mod _ _)
theorem jn_a (a b c : Nat) : jn a b c % 998244353 = a % 998244353 :=
  (add_far (p := 998244353) (v := jv a b) 167772161 (by decide +kernel) (jz a b c)).trans (jv_a a b)
theorem jv_b (a b : Nat) : jv a b % 167772161 = b % 167772161 :=
  joined_mod (p := 167772161) (a := 998244353) (i := i1) (v := a % 998244353) (c := b) (by decide) (by decide +kernel)
theorem jn_b (a b c : Nat) : jn a b c % 167772161 = b % 167772161 :=
  (add_far (p := 167772161) (v := jv a b) 998244353 (by decide +kernel) (jz a b c)).trans (jv_b a b)
theorem jn_c (a b c : Nat) : jn a b c % 469762049 = c % 469762049 :=
  joined_mod (p := 469762049) (a := 167477612308856833) (i := i2) (v := jv a b) (c := c) (by decide) (by decide +kernel)
theorem crt_le {p q r u v : Nat} (c12 : Nat.Coprime p q) (c123 : Nat.Coprime (p * q) r) (hvu : v ≤ u) (hu : u < p * q * r) (h1 : u % p = v % p) (h2 : u % q = v % q) (h3 : u % r = v % r) : u = v := by
  have d1 : p ∣ u - v := Nat.dvd_of_mod_eq_zero (Nat.sub_mod_eq_zero_of_mod_eq h1)
  have d2 : q ∣ u - v := Nat.dvd_of_mod_eq_zero (Nat.sub_mod_eq_zero_of_mod_eq h2)
  have d3 : r ∣ u - v := Nat.dvd_of_mod_eq_zero (Nat.sub_mod_eq_zero_of_mod_eq h3)
  have d := Nat.Coprime.mul_dvd_of_dvd_of_dvd c123 (Nat.Coprime.mul_dvd_of_dvd_of_dvd c12 d1 d2) d3
  have h0 := Nat.eq_zero_of_dvd_of_lt d (Nat.lt_of_le_of_lt (Nat.sub_le u v) hu)
  omega
theorem cop12 : Nat.Coprime 998244353 167772161 := by decide +kernel
theorem cop123 : Nat.Coprime (998244353 * 167772161) 469762049 := by decide +kernel
theorem all3 : 998244353 * 167772161 * 469762049 = 78674626319836206717730817 := by decide +kernel
/-- Numbers below the three primes' product that are alike modulo the primes are one. -/
theorem crt {x y : Nat} (hx : x < 78674626319836206717730817) (hy : y < 78674626319836206717730817) (ha : x % 998244353 = y % 998244353) (hb : x % 167772161 = y % 167772161) (hc : x % 469762049 = y % 469762049) : x = y := by
  rw [← all3] at hx hy
  rcases Nat.le_total x y with h | h
  · exact (crt_le cop12 cop123 h hy ha.symm hb.symm hc.symm).symm
  · exact crt_le cop12 cop123 h hx ha hb hc
theorem under_is (u v m : Nat) (hm : 0 < m) (hl : m < 2147483648) : trio_under.f u v m = some ((u % m * (v % m) % m : Nat) : Int) := by
  have wm : IntKind.u64.wrap (m : Int) = (m : Int) := u64_nat m (by omega)
  have h1 : u % m < m := Nat.mod_lt _ hm
  have h2 : v % m < m := Nat.mod_lt _ hm
  have hp := prod_lt h1 h2 hl
  unfold trio_under.f
  rw [wm, if_neg (by omega), tmod_nat, tmod_nat]
  have e : IntKind.u64.wrap (((u % m : Nat) : Int) * ((v % m : Nat) : Int)) = ((u % m * (v % m) : Nat) : Int) := u64_nat _ hp
  rw [e, tmod_nat]
theorem set2 {w : World} {g : Nat} {T : TypeId} {a b x y : Value} (h : w.heap[g]? = some (.cells #[a, b] T (0, 0))) : ((w.setCell ⟨g, 0, none⟩ x).setCell ⟨g, 1, none⟩ y).heap[g]? = some (.cells #[x, y] T (0, 0)) := by
  have h1 : (w.setCell ⟨g, 0, none⟩ x).heap[g]? = some (.cells #[x, b] T (0, 0)) := by
    rw [setCell_eq_setRow w g 0 _ _ _ _ h, setRow_heap w g _ _ _ _ h]
    rfl
  rw [setCell_eq_setRow _ g 1 _ _ _ _ h1, setRow_heap _ g _ _ _ _ h1]
  rfl
theorem set3 {w : World} {g : Nat} {T : TypeId} {a b c x y z : Value} (h : w.heap[g]? = some (.cells #[a, b, c] T (0, 0))) : (((w.setCell ⟨g, 0, none⟩ x).setCell ⟨g, 1, none⟩ y).setCell ⟨g, 2, none⟩ z).heap[g]? = some (.cells #[x, y, z] T (0, 0)) := by
  have h1 : (w.setCell ⟨g, 0, none⟩ x).heap[g]? = some (.cells #[x, b, c] T (0, 0)) := by
    rw [setCell_eq_setRow w g 0 _ _ _ _ h, setRow_heap w g _ _ _ _ h]
    rfl
  have h2 : ((w.setCell ⟨g, 0, none⟩ x).setCell ⟨g, 1, none⟩ y).heap[g]? = some (.cells #[x, y, c] T (0, 0)) := by
    rw [setCell_eq_setRow _ g 1 _ _ _ _ h1, setRow_heap _ g _ _ _ _ h1]
    rfl
  rw [setCell_eq_setRow _ g 2 _ _ _ _ h2, setRow_heap _ g _ _ _ _ h2]
  rfl
set_option maxHeartbeats 2000000 in
set_option maxRecDepth 100000 in
theorem trio_join (a b c : Nat) (ha : a < 4294967296) (hb : b < 4294967296) (hc : c < 4294967296) (w : World) :
    Calls Tryd.prog 19 #[.agg #[.int .u32 (a : Int), .int .u32 (b : Int), .int .u32 (c : Int)]] w fun e w' => e = .returned (.agg #[.int .u64 ((jn a b c / 18446744073709551616 : Nat) : Int), .int .u64 ((jn a b c % 18446744073709551616 : Nat) : Int)]) ∧ Below w.heap.size w w' := by
  have hI1 : ∀ W, Calls Tryd.prog 34 #[.int .u64 998244353, .int .u32 167772161] W fun e w' => e = .returned (.int .u64 (i1 : Int)) ∧ Below W.heap.size W w' := fun W => trio_inverse.calls 65 998244353 167772161 (i1 : Int) W (inverse_lit (m := 167772161) (a := 998244353) (by decide) (by decide) (by decide) (by decide) (by decide +kernel))
  have hI2 : ∀ W, Calls Tryd.prog 34 #[.int .u64 9851624075821055, .int .u32 469762049] W fun e w' => e = .returned (.int .u64 (i2 : Int)) ∧ Below W.heap.size W w' := fun W => trio_inverse.calls 65 9851624075821055 469762049 (i2 : Int) W (inverse_lit (m := 469762049) (a := 9851624075821055) (by decide) (by decide) (by decide) (by decide) (by decide +kernel))
  obtain ⟨x, hx⟩ : ∃ x, x = a % 998244353 := ⟨_, rfl⟩
  obtain ⟨b3, hb3⟩ : ∃ b3, b3 = b % 167772161 + 167772161 - x % 167772161 := ⟨_, rfl⟩
  obtain ⟨y, hy⟩ : ∃ y, y = jy a b := ⟨_, rfl⟩
  obtain ⟨v, hv⟩ : ∃ v, v = jv a b := ⟨_, rfl⟩
  obtain ⟨c3, hc3⟩ : ∃ c3, c3 = c % 469762049 + 469762049 - v % 469762049 := ⟨_, rfl⟩
  obtain ⟨z, hz⟩ : ∃ z, z = jz a b c := ⟨_, rfl⟩
  have hyl := jy_lt a b
  have hzl := jz_lt a b c
  have hvl := jv_lt a b
  have hU1 : ∀ W, Calls Tryd.prog 41 #[.int .u64 (b3 : Int), .int .u64 (i1 : Int), .int .u32 167772161] W fun e w' => e = .returned (.int .u64 (y : Int)) ∧ Below W.heap.size W w' := fun W => by
    refine (trio_under.calls (b3 : Int) (i1 : Int) 167772161 (y : Int) W ?_).mono ?_
    · rw [hy, hb3, hx]; exact under_is _ i1 167772161 (by decide) (by decide)
    · rintro e w' ⟨rfl, hd⟩; exact ⟨rfl, hd.below⟩
  have hU2 : ∀ W, Calls Tryd.prog 41 #[.int .u64 (c3 : Int), .int .u64 (i2 : Int), .int .u32 469762049] W fun e w' => e = .returned (.int .u64 (z : Int)) ∧ Below W.heap.size W w' := fun W => by
    refine (trio_under.calls (c3 : Int) (i2 : Int) 469762049 (z : Int) W ?_).mono ?_
    · rw [hz, hc3, hv]; exact under_is _ i2 469762049 (by decide) (by decide)
    · rintro e w' ⟨rfl, hd⟩; exact ⟨rfl, hd.below⟩
  rw [← hy] at hyl
  rw [← hz] at hzl
  rw [← hv] at hvl
  have hJ : jn a b c = v + 167477612308856833 * z := by rw [hv, hz]; rfl
  have hJv : v = x + 998244353 * y := by rw [hv, hx, hy]; rfl
  obtain ⟨p, hp⟩ : ∃ p, p = 167477612308856833 * z := ⟨_, rfl⟩
  have hM : ∀ W, Calls Tryd.prog 42 #[.int .u64 167477612308856833, .int .u64 (z : Int)] W fun e w' => e = .returned (.tuple #[.int .u64 ((p / 18446744073709551616 : Nat) : Int), .int .u64 ((p % 18446744073709551616 : Nat) : Int)]) ∧ w' = W := fun W => by
    rw [hp]
    exact bits_mul 167477612308856833 z (by decide) (by omega) W
  obtain ⟨ph, hph⟩ : ∃ ph, ph = p / 18446744073709551616 := ⟨_, rfl⟩
  obtain ⟨pl, hpl⟩ : ∃ pl, pl = p % 18446744073709551616 := ⟨_, rfl⟩
  rw [← hph, ← hpl] at hM
  obtain ⟨sl, hsl⟩ : ∃ sl, sl = (pl + v) % 18446744073709551616 := ⟨_, rfl⟩
  obtain ⟨sh, hsh⟩ : ∃ sh, sh = (pl + v) / 18446744073709551616 := ⟨_, rfl⟩
  have hA : ∀ W, (callFunc 43 #[.int .u64 (pl : Int), .int .u64 (v : Int), .int .u64 0]).run Tryd.prog W = .ok (.value (.tuple #[.int .u64 (sl : Int), .int .u64 (sh : Int)])) W := fun W => by
    have h := run_bits_add (pl : Int) (v : Int) 0 (by omega) (by omega) (by decide) (by decide) W
    have e1 : sumLo (pl : Int) (v : Int) 0 = (sl : Int) := by unfold sumLo; omega
    have e2 : sumHi (pl : Int) (v : Int) 0 = (sh : Int) := by unfold sumHi; omega
    rw [e1, e2] at h
    exact h
  have hfin : jn a b c / 18446744073709551616 = ph + sh ∧ jn a b c % 18446744073709551616 = sl := by rw [hJ, ← hp]; omega
  rw [hfin.1, hfin.2]
  obtain ⟨b1, hb1⟩ : ∃ b1, b1 = b % 167772161 := ⟨_, rfl⟩
  obtain ⟨b2, hb2⟩ : ∃ b2, b2 = b1 + 167772161 := ⟨_, rfl⟩
  obtain ⟨x2, hx2⟩ : ∃ x2, x2 = x % 167772161 := ⟨_, rfl⟩
  obtain ⟨c1, hc1⟩ : ∃ c1, c1 = c % 469762049 := ⟨_, rfl⟩
  obtain ⟨c2, hc2⟩ : ∃ c2, c2 = c1 + 469762049 := ⟨_, rfl⟩
  obtain ⟨v2, hv2⟩ : ∃ v2, v2 = v % 469762049 := ⟨_, rfl⟩
  obtain ⟨y1, hy1⟩ : ∃ y1, y1 = 998244353 * y := ⟨_, rfl⟩
  have wa : IntKind.u64.wrap (a : Int) = (a : Int) := u64_nat a (by omega)
  have wb : IntKind.u64.wrap (b : Int) = (b : Int) := u64_nat b (by omega)
  have wc : IntKind.u64.wrap (c : Int) = (c : Int) := u64_nat c (by omega)
  have ta : Int.tmod (a : Int) 998244353 = (x : Int) := by rw [hx]; exact tmod_nat a 998244353
  have tb : Int.tmod (b : Int) 167772161 = (b1 : Int) := by rw [hb1]; exact tmod_nat b 167772161
  have tx : Int.tmod (x : Int) 167772161 = (x2 : Int) := by rw [hx2]; exact tmod_nat x 167772161
  have tc : Int.tmod (c : Int) 469762049 = (c1 : Int) := by rw [hc1]; exact tmod_nat c 469762049
  have tv : Int.tmod (v : Int) 469762049 = (v2 : Int) := by rw [hv2]; exact tmod_nat v 469762049
  have w1 : IntKind.u64.wrap ((b1 : Int) + 167772161) = (b2 : Int) := by rw [IntKind.wrap_u64]; omega
  have w2 : IntKind.u64.wrap ((b2 : Int) - (x2 : Int)) = (b3 : Int) := by rw [IntKind.wrap_u64]; omega
  have w3 : IntKind.u64.wrap (998244353 * (y : Int)) = (y1 : Int) := by rw [IntKind.wrap_u64]; omega
  have w4 : IntKind.u64.wrap ((x : Int) + (y1 : Int)) = (v : Int) := by rw [IntKind.wrap_u64]; omega
  have w5 : IntKind.u64.wrap ((c1 : Int) + 469762049) = (c2 : Int) := by rw [IntKind.wrap_u64]; omega
  have w6 : IntKind.u64.wrap ((c2 : Int) - (v2 : Int)) = (c3 : Int) := by rw [IntKind.wrap_u64]; omega
  have w7 : IntKind.u64.wrap ((ph : Int) + (sh : Int)) = ((ph + sh : Nat) : Int) := by rw [IntKind.wrap_u64]; omega
  have h01 : (if (1 : Int) < 0 then (1 : Int) else 0) = 0 := rfl
  have HI1 := Aside0.mk hI1
  have HI2 := Aside0.mk hI2
  have HU1 := Aside0.mk hU1
  have HU2 := Aside0.mk hU2
  have HM := Aside0.mk hM
  generalize i1 = u1 at *
  generalize i2 = u2 at *
  clear hI1 hI2 hU1 hU2 hM hx hb3 hy hv hc3 hz hyl hzl hvl hJ hJv hp hph hpl hsl hsh hfin hb1 hb2 hx2 hc1 hc2 hv2 hy1 ha hb hc
  go_enter Tryd.func19, Tryd.ntmps19
  go_wp2
  obtain ⟨W0, hW0⟩ : ∃ W0, W0 = (w.alloc (.cells #[.int .u32 (a : Int), .int .u32 (b : Int), .int .u32 (c : Int)] 47)).alloc (.cells #[.int .u64 0, .int .u64 0] 41) := ⟨_, rfl⟩
  have hx0 : W0.heap[w.heap.size]? = some (.cells #[.int .u32 (a : Int), .int .u32 (b : Int), .int .u32 (c : Int)] 47 (0, 0)) := by rw [hW0]; exact blk_alloc (blk_new _ _) _
  have hr0 : W0.heap[w.heap.size + 1]? = some (.cells #[.int .u64 0, .int .u64 0] 41 (0, 0)) := by
    rw [hW0]
    have h := blk_new (w.alloc (.cells #[.int .u32 (a : Int), .int .u32 (b : Int), .int .u32 (c : Int)] 47)) (.cells #[.int .u64 0, .int .u64 0] 41)
    rwa [World.size_alloc] at h
  have hb0 : Below w.heap.size w W0 := by rw [hW0]; exact below_alloc (below_alloc (Below.refl _ _) _) _
  rw [← hW0]
  have HX := Aside0.mk hx0
  have HR := Aside0.mk hr0
  have HB0 := Aside0.mk hb0
  have CB : Aside0 (W0.cell? ⟨w.heap.size, 1, none⟩ = some (.int .u32 (b : Int))) := ⟨blk_cell hx0 1⟩
  have CC : Aside0 (W0.cell? ⟨w.heap.size, 2, none⟩ = some (.int .u32 (c : Int))) := ⟨blk_cell hx0 2⟩
  clear hW0 hx0 hr0 hb0
  go_region_held3 (fun w' => w'.cell? ⟨w.heap.size, 1, none⟩ = some (.int .u32 (b : Int)))
    (exact cell_later CB.out (by repeat (with_reducible first | exact Below.refl _ _ | apply below_on' HB4.out | apply below_on' HB3.out | apply below_on' HB2.out | apply below_on' HB1.out | apply below_drew | apply below_alloc)))
    (first
      | ((go_at_call 34); (with_reducible refine (HI1.out _).mono ?_); (rintro e1 w1 ⟨rfl, hb⟩); (have HB1 := Aside0.mk hb); (clear hb))
      | ((go_at_call 41); (with_reducible refine (HU1.out _).mono ?_); (rintro e2 w2 ⟨rfl, hb⟩); (have HB2 := Aside0.mk hb); (clear hb)))
  go_wp2
  go_region_held3 (fun w' => w'.cell? ⟨w.heap.size, 2, none⟩ = some (.int .u32 (c : Int)))
    (exact cell_later CC.out (by repeat (with_reducible first | exact Below.refl _ _ | apply below_on' HB4.out | apply below_on' HB3.out | apply below_on' HB2.out | apply below_on' HB1.out | apply below_drew | apply below_alloc)))
    (first
      | ((go_at_call 34); (with_reducible refine (HI2.out _).mono ?_); (rintro e1 w3 ⟨rfl, hb⟩); (have HB3 := Aside0.mk hb); (clear hb))
      | ((go_at_call 41); (with_reducible refine (HU2.out _).mono ?_); (rintro e2 w4 ⟨rfl, hb⟩); (have HB4 := Aside0.mk hb); (clear hb)))
  have hb4 : Below W0.heap.size W0 w4 := (by repeat (with_reducible first | exact Below.refl _ _ | apply below_on' HB4.out | apply below_on' HB3.out | apply below_on' HB2.out | apply below_on' HB1.out | apply below_drew | apply below_alloc))
  have hr4 := blk_below HR.out hb4
  have q0 : w4.cell? ⟨w.heap.size + 1, 0, none⟩ = some (.int .u64 0) := blk_cell hr4 0
  have q1 : w4.cell? ⟨w.heap.size + 1, 1, none⟩ = some (.int .u64 0) := blk_cell hr4 1
  have f0 : w4.frozen? ⟨w.heap.size + 1, 0, none⟩ = false := blk_frozen hr4 0
  have f1 : w4.frozen? ⟨w.heap.size + 1, 1, none⟩ = false := blk_frozen hr4 1
  have hu41 := Tryd.underlying41
  have HR4 := Aside0.mk hr4
  have HB5 := Aside0.mk (below_on HB0.out hb4)
  clear hr4 hb4
  go_wp2_with ((go_at_call 42); (with_reducible refine (HM.out _).mono ?_); (rintro e5 w5 ⟨rfl, rfl⟩))
  refine bodyPost_ret (results_cell_row rfl _ _ (w.heap.size + 1) 41 _ (0, 0) _ rfl (set2 HR4.out) Tryd.underlying41 rfl (by kernel_rfl)) rfl ?_
  exact ⟨rfl, set_below (set_below HB5.out (Nat.le_succ _)) (Nat.le_succ _)⟩
end Go.Proofs.YtaakniobgljniaaDoor.Hand

/- The product of two rows, place by place, in plain numbers; modulo m it is what the transforms make. -/
namespace Go.Proofs.YtaakniobgljniaaDoor.Hand
open Go.RowKit Go.Proofs.YtaakniobgljniaaDoorW.PrintWords Go.Proofs.YtaakniobgljniaaDoorW.PrintMore Go.Proofs.YtaakniobgljniaaDoor.Ntt
set_option linter.unusedVariables false
set_option linter.unusedSimpArgs false

/-- A place of the product of the first i numbers of a and of b. -/
def cS (a b : List Int) : Nat → Nat → Nat
  | 0, _ => 0
  | i + 1, t => cS a b i t + if i ≤ t then (a.getD i 0).toNat * (b.getD (t - i) 0).toNat else 0
section
variable {m : Nat} [NeZero m]
theorem ofNat_add (x y : Nat) : Fin.ofNat m (x + y) = Fin.ofNat m x + Fin.ofNat m y := by
  apply Fin.ext
  rw [Fin.val_add, Fin.val_ofNat, Fin.val_ofNat, Fin.val_ofNat, ← Nat.add_mod]
theorem ofNat_mul (x y : Nat) : Fin.ofNat m (x * y) = Fin.ofNat m x * Fin.ofNat m y := by
  apply Fin.ext
  rw [Fin.val_mul, Fin.val_ofNat, Fin.val_ofNat, Fin.val_ofNat, ← Nat.mul_mod]
theorem fz_zero : (fz 0 : Fin m) = 0 := rfl
theorem ev_row_add (n : Nat) (f g : Nat → Fin m) (x : Fin m) : ev (row n (fun t => f t + g t)) x = ev (row n f) x + ev (row n g) x := by
  induction n generalizing f g with
  | zero => show (0 : Fin m) = 0 + 0; grind
  | succ n ih =>
    rw [row_head, row_head, row_head]
    simp only [ev]
    rw [ih (fun t => f (t + 1)) (fun t => g (t + 1))]
    grind
theorem ev_row_scale (n : Nat) (c : Fin m) (f : Nat → Fin m) (x : Fin m) : ev (row n (fun t => c * f t)) x = c * ev (row n f) x := by
  induction n generalizing f with
  | zero => show (0 : Fin m) = c * 0; grind
  | succ n ih =>
    rw [row_head, row_head]
    simp only [ev]
    rw [ih (fun t => f (t + 1))]
    grind
theorem ev_row_shift (c : Fin m) (f : Nat → Fin m) (x : Fin m) : ∀ (i n : Nat), i ≤ n → ev (row n (fun t => if i ≤ t then c * f (t - i) else 0)) x = c * x ^ i * ev (row (n - i) f) x
  | 0, n, _ => by
    have h := ev_row_scale n c f x
    simp only [Nat.zero_le, if_true, Nat.sub_zero, Ntt.rpow_zero]
    rw [h]
    grind
  | i + 1, 0, h => absurd h (by omega)
  | i + 1, n + 1, h => by
    have ih := ev_row_shift c f x i n (by omega)
    have e : (fun t => if i + 1 ≤ t + 1 then c * f (t + 1 - (i + 1)) else 0) = (fun t => if i ≤ t then c * f (t - i) else 0) := by
      funext t
      by_cases ht : i ≤ t
      · rw [if_pos ht, if_pos (by omega), show t + 1 - (i + 1) = t - i by omega]
      · rw [if_neg ht, if_neg (by omega)]
    rw [row_head, e, if_neg (by omega)]
    simp only [ev]
    rw [ih, show n + 1 - (i + 1) = n - i by omega, Ntt.rpow_succ]
    grind
theorem ev_row_zero (n : Nat) (x : Fin m) : ev (row n (fun _ => (0 : Fin m))) x = 0 := by
  induction n with
  | zero => rfl
  | succ n ih => rw [row_head]; simp only [ev] at ih ⊢; rw [ih]; grind
theorem ev_row_list (x : Fin m) : ∀ (l : List Int) (n : Nat), l.length ≤ n → ev (row n (fun t => fz (l.getD t 0))) x = ev (l.map fz) x
  | [], n, _ => by
    have e : (fun t => (fz (([] : List Int).getD t 0) : Fin m)) = fun _ => 0 := by funext t; rw [List.getD_nil, fz_zero]
    rw [e, ev_row_zero]; rfl
  | a :: l, 0, h => absurd h (by simp)
  | a :: l, n + 1, h => by
    have ih := ev_row_list x l n (by simpa using h)
    rw [row_head]
    simp only [List.getD_cons_succ, List.getD_cons_zero, List.map_cons, ev]
    rw [ih]
theorem ev_take_succ (x : Fin m) : ∀ (l : List Int) (i : Nat), ev ((l.take (i + 1)).map fz) x = ev ((l.take i).map fz) x + fz (l.getD i 0) * x ^ i
  | [], i => by
    rw [List.take_nil, List.take_nil, List.getD_nil, fz_zero]
    show (0 : Fin m) = 0 + 0 * x ^ i
    grind
  | a :: l, 0 => by
    simp only [List.take_succ_cons, List.take_zero, List.map_cons, List.map_nil, ev, List.getD_cons_zero, Ntt.rpow_zero]
    grind
  | a :: l, i + 1 => by
    have ih := ev_take_succ x l i
    simp only [List.take_succ_cons, List.map_cons, ev, List.getD_cons_succ] at ih ⊢
    rw [ih, Ntt.rpow_succ]
    grind
theorem cS_ev (a b : List Int) (n : Nat) (x : Fin m) : ∀ i, i + b.length ≤ n + 1 → i ≤ n → ev (row n (fun t => Fin.ofNat m (cS a b i t))) x = ev ((a.take i).map fz) x * ev (b.map fz) x
  | 0, _, _ => by
    have e : (fun t => Fin.ofNat m (cS a b 0 t)) = fun _ => 0 := by funext t; rfl
    rw [e, ev_row_zero, List.take_zero]
    show (0 : Fin m) = 0 * _
    grind
  | i + 1, h, hn => by
    have ih := cS_ev a b n x i (by omega) (by omega)
    have e : (fun t => Fin.ofNat m (cS a b (i + 1) t)) = fun t => Fin.ofNat m (cS a b i t) + (if i ≤ t then (fz (a.getD i 0) : Fin m) * fz (b.getD (t - i) 0) else 0) := by
      funext t
      show Fin.ofNat m (cS a b i t + if i ≤ t then (a.getD i 0).toNat * (b.getD (t - i) 0).toNat else 0) = _
      rw [ofNat_add]
      by_cases ht : i ≤ t
      · rw [if_pos ht, if_pos ht, ofNat_mul]; rfl
      · rw [if_neg ht, if_neg ht]; rfl
    have hs := ev_row_shift (fz (a.getD i 0) : Fin m) (fun s => fz (b.getD s 0)) x i n (by omega)
    rw [e, ev_row_add, ih, hs, ev_row_list x b (n - i) (by omega), ev_take_succ]
    grind
theorem ev_append_zeros (x : Fin m) (k : Nat) : ∀ l : List (Fin m), ev (l ++ List.replicate k 0) x = ev l x
  | [] => by
    induction k with
    | zero => rfl
    | succ k ih =>
      rw [List.replicate_succ]
      simp only [List.nil_append, ev] at ih ⊢
      rw [ih]; grind
  | a :: l => by
    simp only [List.cons_append, ev]
    rw [ev_append_zeros x k l]
theorem pad_ev (n : Nat) (a : List Int) (x : Fin m) : ev (pad n a) x = ev (a.map fz) x := ev_append_zeros x _ _
/-- The product modulo m: its values are the products of the values. -/
theorem prod_ev (a b : List Int) (n : Nat) (ha : 0 < a.length) (hn : a.length + b.length ≤ n + 1) (hn2 : a.length ≤ n) (x : Fin m) : ev (row n (fun t => Fin.ofNat m (cS a b a.length t))) x = ev (pad n a) x * ev (pad n b) x := by
  rw [cS_ev a b n x a.length hn hn2, List.take_length, pad_ev, pad_ev]
theorem prod_vals (a b : List Int) (n many : Nat) (h : many ≤ n) : ((row n (fun t => Fin.ofNat m (cS a b a.length t))).take many).map (fun x => ((x.val : Nat) : Int)) = (List.range many).map fun t => ((cS a b a.length t % m : Nat) : Int) := by
  rw [row, ← List.map_take, List.take_range, Nat.min_eq_left h, List.map_map]
  rfl
end
/-- How great a place of the product may be. -/
theorem cS_le {a b : List Int} {B : Nat} (ha : ∀ x ∈ a, x.toNat < B) (hb : ∀ x ∈ b, x.toNat < B) : ∀ i t, cS a b i t ≤ i * (B * B)
  | 0, _ => Nat.zero_le _
  | i + 1, t => by
    have ih := cS_le ha hb i t
    have h1 : ∀ l : List Int, (∀ x ∈ l, x.toNat < B) → ∀ k, (l.getD k 0).toNat ≤ B := fun l hl k => by
      rw [List.getD_eq_getElem?_getD]
      cases e : l[k]? with
      | none => exact Nat.zero_le _
      | some x => exact Nat.le_of_lt (hl x (List.mem_of_getElem? e))
    unfold cS
    rw [Nat.succ_mul]
    refine Nat.add_le_add ih ?_
    split
    · exact Nat.mul_le_mul (h1 a ha i) (h1 b hb _)
    · exact Nat.zero_le _
end Go.Proofs.YtaakniobgljniaaDoor.Hand

/- trio.mod, Split by hand: what they answer, in plain numbers. -/
namespace Go.Proofs.YtaakniobgljniaaDoor.Hand
open Go.RowKit Go.Proofs.YtaakniobgljniaaDoorW.PrintWords Go.Proofs.YtaakniobgljniaaDoorW.PrintMore Go.Proofs.YtaakniobgljniaaDoor.Pa
set_option linter.unusedVariables false
set_option linter.unusedSimpArgs false
attribute [local go_sem] Oper.semAt_some max2_int min2_int max_two min_two

/-- A pair's number. -/
def pn (hi lo : Nat) : Nat := hi * 18446744073709551616 + lo
set_option maxRecDepth 100000 in
theorem trio_mod1 (hi lo m : Nat) (hh : hi < 18446744073709551616) (hl : lo < 18446744073709551616) (h0 : 0 < m) (hm : m < 4294967296) (w : World) :
    Calls Tryd.prog 40 #[.agg #[.int .u64 (hi : Int), .int .u64 (lo : Int)], .int .u32 (m : Int)] w fun e w' => e = .returned (.int .u32 ((pn hi lo % m : Nat) : Int)) ∧ Below w.heap.size w w' := by
  obtain ⟨h, hhm⟩ : ∃ h, h = hi % m := ⟨_, rfl⟩
  have hlt : h < m := by rw [hhm]; exact Nat.mod_lt _ h0
  have hD := fun W => bits_div64 h lo m hlt hl (by omega) W
  have hr : (h * 18446744073709551616 + lo) % m = pn hi lo % m := by
    unfold pn
    rw [hhm, Nat.add_mod, Nat.mul_mod, Nat.mod_mod, ← Nat.mul_mod, ← Nat.add_mod]
  have hrl : pn hi lo % m < m := Nat.mod_lt _ h0
  rw [hr] at hD
  generalize (h * 18446744073709551616 + lo) / m = q at *
  generalize pn hi lo % m = r at *
  have wm : IntKind.u64.wrap (m : Int) = (m : Int) := u64_nat m (by omega)
  have m0 : ((m : Int) == 0) = false := by rw [beq_eq_false_iff_ne]; omega
  have m1 : ¬ (m : Int) = 0 := by omega
  have m2 : ¬ m = 0 := by omega
  have th : Int.tmod (hi : Int) (m : Int) = (h : Int) := by rw [hhm]; exact tmod_nat hi m
  have wr : IntKind.u32.wrap (r : Int) = (r : Int) := by rw [IntKind.wrap_u32]; omega
  have HD := Aside0.mk hD
  clear hD hr hhm hlt hrl
  go_enter Tryd.func40, Tryd.ntmps40
  go_wp2
  obtain ⟨W0, hW0⟩ : ∃ W0, W0 = w.alloc (.cells #[.int .u64 (hi : Int), .int .u64 (lo : Int)] 41) := ⟨_, rfl⟩
  have hx0 : W0.heap[w.heap.size]? = some (.cells #[.int .u64 (hi : Int), .int .u64 (lo : Int)] 41 (0, 0)) := by rw [hW0]; exact blk_new _ _
  have hb0 : Below w.heap.size w W0 := by rw [hW0]; exact below_alloc (Below.refl _ _) _
  rw [← hW0]
  have HB0 := Aside0.mk hb0
  have C0 : Aside0 (W0.cell? ⟨w.heap.size, 0, none⟩ = some (.int .u64 (hi : Int))) := ⟨blk_cell hx0 0⟩
  have C1 : Aside0 (W0.cell? ⟨w.heap.size, 1, none⟩ = some (.int .u64 (lo : Int))) := ⟨blk_cell hx0 1⟩
  clear hW0 hx0 hb0
  go_region_held3 (fun w' => w'.cell? ⟨w.heap.size, 0, none⟩ = some (.int .u64 (hi : Int)) ∧ w'.cell? ⟨w.heap.size, 1, none⟩ = some (.int .u64 (lo : Int)))
    (exact ⟨cell_later C0.out (by repeat (with_reducible first | exact Below.refl _ _ | apply below_on' HB1.out | apply below_drew | apply below_alloc)), cell_later C1.out (by repeat (with_reducible first | exact Below.refl _ _ | apply below_on' HB1.out | apply below_drew | apply below_alloc))⟩)
    (((go_at_call 55); (with_reducible refine (HD.out _).mono ?_); (rintro e1 w1 ⟨rfl, hb⟩); (have HB1 := Aside0.mk hb); (clear hb)))
  go_wp2
  refine bodyPost_ret (results_tmp rfl _ _ _) rfl ?_
  exact ⟨rfl, below_on HB0.out (by repeat (with_reducible first | exact Below.refl _ _ | apply below_on' HB1.out | apply below_drew | apply below_alloc))⟩
theorem cell_set3 (w : World) (g : Nat) (x y z : Value) (p : Addr) (h : g ≠ p.block) : (((w.setCell ⟨g, 0, none⟩ x).setCell ⟨g, 1, none⟩ y).setCell ⟨g, 2, none⟩ z).cell? p = w.cell? p := by
  rw [World.cell?_setCell_far _ _ _ _ h, World.cell?_setCell_far _ _ _ _ h, World.cell?_setCell_far _ _ _ _ h]
set_option maxHeartbeats 2000000 in
set_option maxRecDepth 100000 in
theorem trio_split (hi lo : Nat) (hh : hi < 18446744073709551616) (hl : lo < 18446744073709551616) (w : World) (hp : PrimesAt w) :
    Calls Tryd.prog 18 #[.agg #[.int .u64 (hi : Int), .int .u64 (lo : Int)]] w fun e w' => e = .returned (.agg #[.int .u32 ((pn hi lo % 998244353 : Nat) : Int), .int .u32 ((pn hi lo % 167772161 : Nat) : Int), .int .u32 ((pn hi lo % 469762049 : Nat) : Int)]) ∧ Below w.heap.size w w' := by
  have h1 : ∀ W, Calls Tryd.prog 40 #[.agg #[.int .u64 (hi : Int), .int .u64 (lo : Int)], .int .u32 998244353] W fun e w' => e = .returned (.int .u32 ((pn hi lo % 998244353 : Nat) : Int)) ∧ Below W.heap.size W w' := fun W => trio_mod1 hi lo 998244353 hh hl (by decide) (by decide) W
  have h2 : ∀ W, Calls Tryd.prog 40 #[.agg #[.int .u64 (hi : Int), .int .u64 (lo : Int)], .int .u32 167772161] W fun e w' => e = .returned (.int .u32 ((pn hi lo % 167772161 : Nat) : Int)) ∧ Below W.heap.size W w' := fun W => trio_mod1 hi lo 167772161 hh hl (by decide) (by decide) W
  have h3 : ∀ W, Calls Tryd.prog 40 #[.agg #[.int .u64 (hi : Int), .int .u64 (lo : Int)], .int .u32 469762049] W fun e w' => e = .returned (.int .u32 ((pn hi lo % 469762049 : Nat) : Int)) ∧ Below W.heap.size W w' := fun W => trio_mod1 hi lo 469762049 hh hl (by decide) (by decide) W
  generalize pn hi lo % 998244353 = x at *
  generalize pn hi lo % 167772161 = y at *
  generalize pn hi lo % 469762049 = z at *
  have H1 := Aside0.mk h1
  have H2 := Aside0.mk h2
  have H3 := Aside0.mk h3
  have HP := Aside0.mk hp
  clear h1 h2 h3 hp
  have hu41 := Tryd.underlying41
  have hu47 := Tryd.underlying47
  go_enter Tryd.func18, Tryd.ntmps18
  go_wp2
  obtain ⟨W0, hW0⟩ : ∃ W0, W0 = (w.alloc (.cells #[.int .u64 (hi : Int), .int .u64 (lo : Int)] 41)).alloc (.cells #[.int .u32 0, .int .u32 0, .int .u32 0] 47) := ⟨_, rfl⟩
  have hx0 : W0.heap[w.heap.size]? = some (.cells #[.int .u64 (hi : Int), .int .u64 (lo : Int)] 41 (0, 0)) := by rw [hW0]; exact blk_alloc (blk_new _ _) _
  have hr0 : W0.heap[w.heap.size + 1]? = some (.cells #[.int .u32 0, .int .u32 0, .int .u32 0] 47 (0, 0)) := by
    rw [hW0]
    have h := blk_new (w.alloc (.cells #[.int .u64 (hi : Int), .int .u64 (lo : Int)] 41)) (.cells #[.int .u32 0, .int .u32 0, .int .u32 0] 47)
    rwa [World.size_alloc] at h
  have hb0 : Below w.heap.size w W0 := by rw [hW0]; exact below_alloc (below_alloc (Below.refl _ _) _) _
  rw [← hW0]
  have hp0 := HP.out.later hb0
  have HR := Aside0.mk hr0
  have HB0 := Aside0.mk hb0
  have C0 : Aside0 (W0.cell? ⟨w.heap.size, 0, none⟩ = some (.int .u64 (hi : Int))) := ⟨blk_cell hx0 0⟩
  have C1 : Aside0 (W0.cell? ⟨w.heap.size, 1, none⟩ = some (.int .u64 (lo : Int))) := ⟨blk_cell hx0 1⟩
  have P0 := Aside0.mk hp0
  clear hW0 hx0 hb0 hr0 hp0
  have HRS : Aside0 (W0.heap.size ≤ W0.heap.size) := ⟨Nat.le_refl _⟩
  go_region_held3 (fun w' => w'.cell? ⟨w.heap.size, 0, none⟩ = some (.int .u64 (hi : Int)) ∧ w'.cell? ⟨w.heap.size, 1, none⟩ = some (.int .u64 (lo : Int)) ∧ w'.cell? ⟨0, 0, none⟩ = some (.int .u32 998244353) ∧ w'.cell? ⟨0, 1, none⟩ = some (.int .u32 167772161) ∧ w'.cell? ⟨0, 2, none⟩ = some (.int .u32 469762049))
    (first
      | exact ⟨(cell_set3 w3 _ _ _ _ _ (by simp)).trans G0.out, (cell_set3 w3 _ _ _ _ _ (by simp)).trans G1.out, (cell_set3 w3 _ _ _ _ _ (by simp)).trans GP.out.a, (cell_set3 w3 _ _ _ _ _ (by simp)).trans GP.out.b, (cell_set3 w3 _ _ _ _ _ (by simp)).trans GP.out.c⟩
      | exact ⟨cell_later C0.out (by repeat (with_reducible first | exact Below.refl _ _ | apply below_on' HB3.out | apply below_on' HB2.out | apply below_on' HB1.out | apply below_drew | apply below_alloc | refine set_below ?_ HRS.out)), cell_later C1.out (by repeat (with_reducible first | exact Below.refl _ _ | apply below_on' HB3.out | apply below_on' HB2.out | apply below_on' HB1.out | apply below_drew | apply below_alloc | refine set_below ?_ HRS.out)), cell_later P0.out.a (by repeat (with_reducible first | exact Below.refl _ _ | apply below_on' HB3.out | apply below_on' HB2.out | apply below_on' HB1.out | apply below_drew | apply below_alloc | refine set_below ?_ HRS.out)), cell_later P0.out.b (by repeat (with_reducible first | exact Below.refl _ _ | apply below_on' HB3.out | apply below_on' HB2.out | apply below_on' HB1.out | apply below_drew | apply below_alloc | refine set_below ?_ HRS.out)), cell_later P0.out.c (by repeat (with_reducible first | exact Below.refl _ _ | apply below_on' HB3.out | apply below_on' HB2.out | apply below_on' HB1.out | apply below_drew | apply below_alloc | refine set_below ?_ HRS.out))⟩)
    (first
      | ((go_at_call 40); (with_reducible refine (H1.out _).mono ?_); (rintro e1 w1 ⟨rfl, hb⟩); (have HB1 := Aside0.mk hb); (clear hb))
      | ((go_at_call 40); (with_reducible refine (H2.out _).mono ?_); (rintro e2 w2 ⟨rfl, hb⟩); (have HB2 := Aside0.mk hb); (clear hb))
      | ((go_at_call 40); (with_reducible refine (H3.out _).mono ?_); (rintro e3 w3 ⟨rfl, hb⟩); (have HB3 := Aside0.mk hb); (have hb03 : Below W0.heap.size W0 w3 := (by repeat (with_reducible first | exact Below.refl _ _ | apply below_on' HB3.out | apply below_on' HB2.out | apply below_on' HB1.out | apply below_drew | apply below_alloc | refine set_below ?_ HRS.out))); (have hr3 := blk_below HR.out hb03); (have q0 : w3.cell? ⟨w.heap.size + 1, 0, none⟩ = some (.int .u32 0) := blk_cell hr3 0); (have q1 : w3.cell? ⟨w.heap.size + 1, 1, none⟩ = some (.int .u32 0) := blk_cell hr3 1); (have q2 : w3.cell? ⟨w.heap.size + 1, 2, none⟩ = some (.int .u32 0) := blk_cell hr3 2); (have f0 : w3.frozen? ⟨w.heap.size + 1, 0, none⟩ = false := blk_frozen hr3 0); (have f1 : w3.frozen? ⟨w.heap.size + 1, 1, none⟩ = false := blk_frozen hr3 1); (have f2 : w3.frozen? ⟨w.heap.size + 1, 2, none⟩ = false := blk_frozen hr3 2); (have HR3 := Aside0.mk hr3); (have HB03 := Aside0.mk hb03); (have G0 := Aside0.mk (cell_later C0.out hb03)); (have G1 := Aside0.mk (cell_later C1.out hb03)); (have GP := Aside0.mk (P0.out.later hb03)); (clear hb hr3 hb03)))
  go_wp2
  refine bodyPost_ret (results_cell_row rfl _ _ (w.heap.size + 1) 47 _ (0, 0) _ rfl (set3 HR3.out) Tryd.underlying47 rfl (by kernel_rfl)) rfl ?_
  exact ⟨rfl, set_below (set_below (set_below (below_on HB0.out HB03.out) (Nat.le_succ _)) (Nat.le_succ _)) (Nat.le_succ _)⟩
end Go.Proofs.YtaakniobgljniaaDoor.Hand

/- trio.Mod by hand, the other ways: where the number is none of the primes, and where a row is empty; and the product's row in plain numbers. -/
namespace Go.Proofs.YtaakniobgljniaaDoor.Hand
open Go.RowKit Go.Proofs.YtaakniobgljniaaDoorW.PrintWords Go.Proofs.YtaakniobgljniaaDoorW.PrintMore Go.Proofs.YtaakniobgljniaaDoor.Pa Go.Proofs.YtaakniobgljniaaDoor.Ntt
set_option linter.unusedVariables false
set_option linter.unusedSimpArgs false
attribute [local go_sem] Oper.semAt_some max2_int min2_int max_two min_two

set_option maxRecDepth 100000 in
theorem mod_bad (v : Int) (hv : ¬ (v = 998244353 ∨ v = 167772161 ∨ v = 469762049)) (many N : Int) (A B : Option Addr) (la lb ca cb : Nat) (a b : List Int) (w : World) (hp : PrimesAt w)
    (ha : ReadsInt w .u64 A la a) (hb : ReadsInt w .u64 B lb b) (hca : la ≤ ca) (hcb : lb ≤ cb) (hpl : trio_places.f 64 a b = some (many, N)) :
    Calls Tryd.prog 11 #[.slice A la ca, .slice B lb cb, .int .u32 v] w fun e w' => e = .returned (.tuple #[.slice none 0 0, .int .i64 1]) ∧ Below w.heap.size w w' := by
  have HPL := Aside0.mk (places_call A B la lb ca cb a b many N w ha hb hca hcb hpl)
  have HCN := Aside0.mk (fun W h => contains_primes v W h)
  rw [decide_eq_false hv] at HCN
  have HPR := Aside0.mk hp
  clear hp ha hb hpl hv
  go_enter Tryd.func11, Tryd.ntmps11
  go_wp2_with (first
    | ((go_at_call 25); (with_reducible refine HPL.out.mono ?_); (rintro e w1 ⟨rfl, hb⟩); (have HB1 := Aside0.mk hb); (clear hb))
    | ((go_at_call 26); (with_reducible refine (HCN.out _ (HPR.out.later (below_alloc HB1.out _))).mono ?_); (rintro e w2 ⟨rfl, hb⟩); (have HB2 := Aside0.mk (below_on (below_alloc HB1.out _) hb)); (clear hb)))
  refine bodyPost_ret (results_tmp2 rfl _ _ _) rfl ?_
  exact ⟨rfl, HB2.out⟩
set_option maxRecDepth 100000 in
theorem mod_none (v : Int) (hv : v = 998244353 ∨ v = 167772161 ∨ v = 469762049) (A B : Option Addr) (la lb ca cb : Nat) (a b : List Int) (w : World) (hp : PrimesAt w)
    (ha : ReadsInt w .u64 A la a) (hb : ReadsInt w .u64 B lb b) (hca : la ≤ ca) (hcb : lb ≤ cb) (hn : a = [] ∨ b = []) :
    Calls Tryd.prog 11 #[.slice A la ca, .slice B lb cb, .int .u32 v] w fun e w' => e = .returned (.tuple #[.slice none 0 0, .int .i64 0]) ∧ Below w.heap.size w w' := by
  have HPL := Aside0.mk (places_call A B la lb ca cb a b 0 0 w ha hb hca hcb (places_none a b hn 64 (by decide)))
  have HCN := Aside0.mk (fun W h => contains_primes v W h)
  rw [decide_eq_true hv] at HCN
  have HPR := Aside0.mk hp
  clear hp ha hb hv hn
  go_enter Tryd.func11, Tryd.ntmps11
  go_wp2_with (first
    | ((go_at_call 25); (with_reducible refine HPL.out.mono ?_); (rintro e w1 ⟨rfl, hb⟩); (have HB1 := Aside0.mk hb); (clear hb))
    | ((go_at_call 26); (with_reducible refine (HCN.out _ (HPR.out.later (below_alloc HB1.out _))).mono ?_); (rintro e w2 ⟨rfl, hb⟩); (have hbk := blk_below (blk_new _ _) hb); (have qN : w2.cell? ⟨w1.heap.size, 0, none⟩ = some (.int .i64 0) := blk_cell hbk 0); (have HB2 := Aside0.mk (below_on (below_alloc HB1.out _) hb)); (clear hb hbk)))
  refine bodyPost_ret (results_tmp2 rfl _ _ _) rfl ?_
  exact ⟨rfl, HB2.out⟩
/-- A product modulo a prime, in plain numbers: place t is cS's, modulo it. -/
theorem trio_mod_rows (m : Nat) (h3 : isPrime3 m) (A B : Option Addr) (la lb ca cb : Nat) (a b : List Int) (w : World) (hp : PrimesAt w)
    (ha : ReadsInt w .u64 A la a) (hb : ReadsInt w .u64 B lb b) (hca : la ≤ ca) (hcb : lb ≤ cb) (hia : Num.InB Num.W a) (hib : Num.InB Num.W b) (hla : la ≤ 1024) (hlb : lb ≤ 1024) (ha0 : 0 < la) (hb0 : 0 < lb) :
    Calls Tryd.prog 11 #[.slice A la ca, .slice B lb cb, .int .u32 (m : Int)] w fun e w' => ∃ g, e = .returned (.tuple #[.slice (some ⟨g, 0, none⟩) (la + lb - 1) (la + lb - 1), .int .i64 0]) ∧
      ReadsInt w' .u32 (some ⟨g, 0, none⟩) (la + lb - 1) ((List.range (la + lb - 1)).map fun t => ((cS a b la t % m : Nat) : Int)) ∧ w.heap.size ≤ g ∧ Below w.heap.size w w' := by
  have hal : a.length = la := ha.1
  have hbl : b.length = lb := hb.1
  have hne1 : a ≠ [] := fun e => by rw [e] at hal; simp at hal; omega
  have hne2 : b ≠ [] := fun e => by rw [e] at hbl; simp at hbl; omega
  obtain ⟨j, hj, hmn, hpl⟩ := places_is a b hne1 hne2 (by omega) (by omega) 64 (by decide)
  rw [hal, hbl] at hmn hpl
  have h0 : m ≠ 0 := by rcases h3 with rfl | rfl | rfl <;> decide
  haveI : NeZero m := ⟨h0⟩
  have hev : ∀ x : Fin m, ev (row (2 ^ j) (fun t => Fin.ofNat m (cS a b a.length t))) x = ev (pad (2 ^ j) a) x * ev (pad (2 ^ j) b) x := fun x => prod_ev a b (2 ^ j) (by omega) (by omega) (by omega) x
  have h := mod_main j (la + lb - 1) (2 ^ j) h3 rfl hj hmn (by omega) A B la lb ca cb a b (row (2 ^ j) (fun t => Fin.ofNat m (cS a b a.length t))) w hp ha hb hca hcb hia hib (by omega) (by omega) hpl (row_length _ _) hev
  rw [prod_vals a b (2 ^ j) (la + lb - 1) hmn, hal] at h
  exact h
end Go.Proofs.YtaakniobgljniaaDoor.Hand

/- trio.Times's question by hand: does a row hold a number of 2^32 or more? -/
namespace Go.Proofs.YtaakniobgljniaaDoor.Hand
open Go.RowKit Go.Proofs.YtaakniobgljniaaDoorW.PrintWords Go.Proofs.YtaakniobgljniaaDoorW.PrintMore
set_option linter.unusedVariables false
set_option linter.unusedSimpArgs false

/-- Is a number one of more than 32 bits? -/
def wideV (v : Int) : Bool := decide (4294967296 ≤ v)
theorem times_wide (v : Int) (w : World) : Calls Tryd.prog 38 #[.int .u64 v] w fun e w' => e = .returned (.bool (wideV v)) ∧ w' = w := by
  unfold wideV
  go_enter Tryd.func38, Tryd.ntmps38
  go_wp2
  refine bodyPost_ret (results_tmp rfl _ _ _) rfl ?_
  exact ⟨by simp [*], rfl⟩
theorem any_of_take {l : List Int} {k : Nat} {p : Int → Bool} (h : (l.take k).any p = true) : l.any p = true := by rw [← List.take_append_drop k l, List.any_append, h]; rfl
set_option maxRecDepth 100000 in
theorem index_wide (A : Option Addr) (c : Nat) (l : List Int) (w : World) (hr : ReadsInt w .u64 A l.length l) :
    Calls Tryd.prog 54 #[.slice A l.length c, .func (.func 38) #[] #[]] w fun e w' => ∃ r : Int, e = .returned (.int .i64 r) ∧ (0 ≤ r ↔ l.any wideV = true) ∧ w' = w := by
  have hmax := hr.2.1
  have HR := Aside0.mk hr
  have HO := Aside0.mk times_wide
  obtain ⟨n, hn⟩ : ∃ n, n = l.length := ⟨_, rfl⟩
  have HN := Aside0.mk hn
  rw [← hn] at hmax ⊢
  clear hr hn
  go_enter Tryd.func54, Tryd.ntmps54
  go_wp2
  go_loopw [8] (fun v8 wr => ∃ k : Nat, v8 = .int .i64 (k : Int) ∧ k ≤ n ∧ wr = w ∧ Aside0 ((l.take k).any wideV = false)) (fun v8 _ => n - (intOf v8).toNat)
  case atStart => exact ⟨0, rfl, Nat.zero_le _, rfl, ⟨rfl⟩⟩
  case round =>
    obtain ⟨k, rfl, hk, rfl, HF⟩ := hrel
    by_cases hlt : k < n
    · have hlen := HN.out
      obtain ⟨ad, hA, hcell⟩ := HR.out.2.2 (by omega)
      have hck := hcell k (by omega)
      subst hA
      have hs : l.take (k + 1) = l.take k ++ [l.getD k 0] := by
        rw [List.take_add_one, List.getElem?_eq_getElem (by omega), List.getD_eq_getElem?_getD, List.getElem?_eq_getElem (by omega)]
        rfl
      have HS := Aside0.mk hs
      clear hcell hs hlen
      generalize l.getD k 0 = x at *
      cases hx : wideV x with
      | true =>
        have HX := Aside0.mk hx
        have HOX := Aside0.mk (HO.out x)
        rw [hx] at HOX
        clear hx
        go_wp2_with ((go_at_call 38); (with_reducible refine (HOX.out _).mono ?_); (rintro e w1 ⟨rfl, rfl⟩))
        refine bodyPost_ret (results_tmp rfl _ _ _) rfl ?_
        exact ⟨(k : Int), rfl, ⟨fun _ => any_of_take (k := k + 1) (by rw [HS.out, List.any_append]; simp [HX.out]), fun _ => by omega⟩, rfl⟩
      | false =>
        have HX := Aside0.mk hx
        have HOX := Aside0.mk (HO.out x)
        rw [hx] at HOX
        clear hx
        go_wp2_with ((go_at_call 38); (with_reducible refine (HOX.out _).mono ?_); (rintro e w1 ⟨rfl, rfl⟩))
        exact ⟨⟨k + 1, rfl, hlt, trivial, ⟨by rw [HS.out, List.any_append, HF.out]; simp [HX.out]⟩⟩, by simp [intOf]; omega⟩
    · go_wp2
      refine bodyPost_ret (results_tmp rfl _ _ _) rfl ?_
      have hall : l.any wideV = false := by
        have h := HF.out
        rwa [List.take_of_length_le (by have := HN.out; omega)] at h
      exact ⟨-1, rfl, ⟨fun h => absurd h (by decide), fun h => by rw [hall] at h; cases h⟩, rfl⟩
theorem contains_wide (A : Option Addr) (c : Nat) (l : List Int) (w : World) (hr : ReadsInt w .u64 A l.length l) :
    Calls Tryd.prog 39 #[.slice A l.length c, .func (.func 38) #[] #[]] w fun e w' => e = .returned (.bool (l.any wideV)) ∧ w' = w := by
  have HI := Aside0.mk (index_wide A c l w hr)
  clear hr
  obtain ⟨n, hn⟩ : ∃ n, n = l.length := ⟨_, rfl⟩
  rw [← hn] at HI ⊢
  clear hn
  go_enter Tryd.func39, Tryd.ntmps39
  go_wp2_with ((go_at_call 54); (with_reducible refine HI.out.mono ?_); (rintro e w1 ⟨r, rfl, hr, rfl⟩); (have HRR := Aside0.mk hr); (clear hr))
  refine bodyPost_ret (results_tmp rfl _ _ _) rfl ?_
  have hb : decide (0 ≤ r) = l.any wideV := by
    rw [Bool.eq_iff_iff, decide_eq_true_iff]
    exact HRR.out
  exact ⟨by rw [← hb]; rfl, rfl⟩
end Go.Proofs.YtaakniobgljniaaDoor.Hand

/- trio.Times by hand: exact products, by three primes. -/
namespace Go.Proofs.YtaakniobgljniaaDoor.Hand
open Go.RowKit Go.Proofs.YtaakniobgljniaaDoorW.PrintWords Go.Proofs.YtaakniobgljniaaDoorW.PrintMore Go.Proofs.YtaakniobgljniaaDoor.Pa
set_option linter.unusedVariables false
set_option linter.unusedSimpArgs false
attribute [local go_sem] Oper.semAt_some max2_int min2_int max_two min_two

/-- The three primes. -/
def prn : Nat → Nat
  | 0 => 998244353
  | 1 => 167772161
  | _ => 469762049
theorem prn_is (k : Nat) : isPrime3 (prn k) := by
  match k with
  | 0 => exact .inl rfl
  | 1 => exact .inr (.inl rfl)
  | k + 2 => exact .inr (.inr rfl)
theorem PrimesAt.at {w : World} (h : PrimesAt w) (k : Nat) (hk : k < 3) : w.cell? ⟨0, k, none⟩ = some (.int .u32 (prn k : Int)) := by
  match k, hk with
  | 0, _ => exact h.a
  | 1, _ => exact h.b
  | 2, _ => exact h.c
/-- A product's row modulo the k-th prime. -/
def rowP (a b : List Int) (k : Nat) : List Int := (List.range (a.length + b.length - 1)).map fun t => ((cS a b a.length t % prn k : Nat) : Int)
/-- A number's pair. -/
def pairN (n : Nat) : S41 := ⟨((n / 18446744073709551616 : Nat) : Int), ((n % 18446744073709551616 : Nat) : Int)⟩
/-- What trio.Times answers. -/
def timesV (a b : List Int) : List S41 × Int :=
  if a.any wideV || b.any wideV then ([], 1) else if a = [] ∨ b = [] then ([], 0) else ((List.range (a.length + b.length - 1)).map fun t => pairN (cS a b a.length t), 0)
theorem reads_set_other {w : World} {K : IntKind} {g g2 n j : Nat} {l : List Int} {v : Value} (h : ReadsInt w K (some ⟨g, 0, none⟩) n l) (hne : g ≠ g2) : ReadsInt (w.setCell ⟨g2, j, none⟩ v) K (some ⟨g, 0, none⟩) n l := by
  refine ⟨h.1, h.2.1, fun hn => ?_⟩
  obtain ⟨ad, e, hc⟩ := h.2.2 hn
  injection e with e
  subst e
  refine ⟨_, rfl, fun k hk => ?_⟩
  rw [World.cell?_setCell_far _ _ _ _ (by rw [Addr.add_lit]; exact hne.symm)]
  exact hc k hk
theorem reads_cell {w : World} {K : IntKind} {g n : Nat} {l : List Int} (h : ReadsInt w K (some ⟨g, 0, none⟩) n l) (k : Nat) (hk : k < n) : w.cell? ⟨g, k, none⟩ = some (.int K (l.getD k 0)) := by
  obtain ⟨ad, e, hc⟩ := h.2.2 (by omega)
  injection e with e
  subst e
  have h1 := hc k hk
  rwa [Addr.add_lit, Nat.zero_add] at h1
theorem join_back {n : Nat} (hn : n < 78674626319836206717730817) (W : World) : Calls Tryd.prog 19 #[.agg #[.int .u32 ((n % prn 0 : Nat) : Int), .int .u32 ((n % prn 1 : Nat) : Int), .int .u32 ((n % prn 2 : Nat) : Int)]] W fun e w' => e = .returned (.agg #[.int .u64 (pairN n).f0, .int .u64 (pairN n).f1]) ∧ Below W.heap.size W w' := by
  have h0 : n % prn 0 < 998244353 := Nat.mod_lt _ (by decide)
  have h1 : n % prn 1 < 167772161 := Nat.mod_lt _ (by decide)
  have h2 : n % prn 2 < 469762049 := Nat.mod_lt _ (by decide)
  have e : jn (n % prn 0) (n % prn 1) (n % prn 2) = n := crt (jn_lt _ _ _) hn (by rw [jn_a]; exact Nat.mod_mod _ _) (by rw [jn_b]; exact Nat.mod_mod _ _) (by rw [jn_c]; exact Nat.mod_mod _ _)
  have h := trio_join (n % prn 0) (n % prn 1) (n % prn 2) (by omega) (by omega) (by omega) W
  rw [e] at h
  exact h
theorem set_of3 {w : World} {g : Nat} {T : TypeId} {cs : Nat → Value} {k : Nat} {v : Value} (h : w.heap[g]? = some (.cells #[cs 0, cs 1, cs 2] T (0, 0))) (hk : k < 3) :
    (w.setCell ⟨g, k, none⟩ v).heap[g]? = some (.cells #[(if 0 = k then v else cs 0), (if 1 = k then v else cs 1), (if 2 = k then v else cs 2)] T (0, 0)) := by
  have hg := blk_lt h
  match k, hk with
  | 0, _ => rw [setCell_eq_setRow w g 0 _ _ _ _ h, setRow_heap w g _ _ _ _ h]; rfl
  | 1, _ => rw [setCell_eq_setRow w g 1 _ _ _ _ h, setRow_heap w g _ _ _ _ h]; rfl
  | 2, _ => rw [setCell_eq_setRow w g 2 _ _ _ _ h, setRow_heap w g _ _ _ _ h]; rfl
theorem not_wide {a : List Int} (h : a.any wideV = false) : ∀ x ∈ a, x.toNat < 4294967296 := fun x hx => by
  have h1 := List.any_eq_false.1 h x hx
  unfold wideV at h1
  simp at h1
  omega
theorem cS_below {a b : List Int} (ha : a.any wideV = false) (hb : b.any wideV = false) (hla : a.length ≤ 1024) (t : Nat) : cS a b a.length t < 78674626319836206717730817 := by
  have h := cS_le (not_wide ha) (not_wide hb) a.length t
  have h2 : a.length * (4294967296 * 4294967296) ≤ 1024 * (4294967296 * 4294967296) := Nat.mul_le_mul_right _ hla
  exact Nat.lt_of_le_of_lt (Nat.le_trans h h2) (by decide)
/-- The array of three rows: k of them are made. -/
structure Three (a b : List Int) (bl many k : Nat) (wr : World) : Prop where
  out : ∃ (T : TypeId) (cs : Nat → Value), wr.heap[bl]? = some (.cells #[cs 0, cs 1, cs 2] T (0, 0)) ∧ ∀ j, j < k → ∃ g, bl < g ∧ cs j = .slice (some ⟨g, 0, none⟩) many many ∧ ReadsInt wr .u32 (some ⟨g, 0, none⟩) many (rowP a b j)
theorem Three.later {a b : List Int} {bl many k : Nat} {w w' : World} (h : Three a b bl many k w) (hb : Below w.heap.size w w') : Three a b bl many k w' := by
  obtain ⟨T, cs, hc, hr⟩ := h.out
  exact ⟨T, cs, blk_below hc hb, fun j hj => by
    obtain ⟨g, h1, h2, h3⟩ := hr j hj
    exact ⟨g, h1, h2, ReadsInt.below h3 hb⟩⟩
theorem Three.put {a b : List Int} {bl many k g : Nat} {w : World} (h : Three a b bl many k w) (hk : k < 3) (hg : bl < g) (hr : ReadsInt w .u32 (some ⟨g, 0, none⟩) many (rowP a b k)) : Three a b bl many (k + 1) (w.setCell ⟨bl, k, none⟩ (.slice (some ⟨g, 0, none⟩) many many)) := by
  obtain ⟨T, cs, hc, hrs⟩ := h.out
  refine ⟨T, fun j => if j = k then .slice (some ⟨g, 0, none⟩) many many else cs j, set_of3 hc hk, fun j hj => ?_⟩
  by_cases hjk : j = k
  · subst hjk
    exact ⟨g, hg, if_pos rfl, reads_set_other hr (by omega)⟩
  · obtain ⟨g', h1, h2, h3⟩ := hrs j (by omega)
    exact ⟨g', h1, by simp only [hjk, if_false]; exact h2, reads_set_other h3 (by omega)⟩
theorem cell_of3 {w : World} {g : Nat} {T : TypeId} {v : Value} (h : w.heap[g]? = some (.cells #[v, v, v] T (0, 0))) (k : Nat) (hk : k < 3) : w.cell? ⟨g, k, none⟩ = some v := by
  match k, hk with
  | 0, _ => exact blk_cell h 0
  | 1, _ => exact blk_cell h 1
  | 2, _ => exact blk_cell h 2
theorem Three.cell {a b : List Int} {bl many k : Nat} {w : World} (h : Three a b bl many k w) (j : Nat) (hj : j < 3) : ∃ v, w.cell? ⟨bl, j, none⟩ = some v ∧ w.frozen? ⟨bl, j, none⟩ = false := by
  obtain ⟨T, cs, hc, hr⟩ := h.out
  match j, hj with
  | 0, _ => exact ⟨_, blk_cell hc 0, blk_frozen hc 0⟩
  | 1, _ => exact ⟨_, blk_cell hc 1, blk_frozen hc 1⟩
  | 2, _ => exact ⟨_, blk_cell hc 2, blk_frozen hc 2⟩
theorem Three.lt {a b : List Int} {bl many k g : Nat} {w : World} (h : Three a b bl many k w) (hg : w.heap.size ≤ g) : bl < g := by
  obtain ⟨T, cs, hc, hr⟩ := h.out
  exact Nat.lt_of_lt_of_le (blk_lt hc) hg
set_option maxHeartbeats 2000000 in
set_option maxRecDepth 100000 in
theorem times_wide_rows (A B : Option Addr) (ca cb : Nat) (a b : List Int) (w : World)
    (ha : ReadsInt w .u64 A a.length a) (hb : ReadsInt w .u64 B b.length b) (hw : (a.any wideV || b.any wideV) = true) :
    Calls Tryd.prog 13 #[.slice A a.length ca, .slice B b.length cb] w fun e w' => e = .returned (.tuple #[.slice none 0 0, .int .i64 1]) ∧ Below w.heap.size w w' := by
  have HA := Aside0.mk (fun W h => contains_wide A ca a W (ReadsInt.below ha h))
  have HB := Aside0.mk (fun W h => contains_wide B cb b W (ReadsInt.below hb h))
  have HW := Aside0.mk hw
  clear ha hb hw
  generalize a.length = la at *
  generalize b.length = lb at *
  generalize a.any wideV = wa at *
  generalize b.any wideV = wb at *
  cases wa
  · have hwb : wb = true := by simpa using HW.out
    subst hwb
    go_enter Tryd.func13, Tryd.ntmps13
    go_wp2_with (first
      | ((go_at_call 39); (with_reducible refine (HA.out _ (Below.refl _ _)).mono ?_); (rintro e w1 ⟨rfl, rfl⟩))
      | ((go_at_call 39); (with_reducible refine (HB.out _ (Below.refl _ _)).mono ?_); (rintro e w2 ⟨rfl, rfl⟩)))
    refine bodyPost_ret (results_tmp2 rfl _ _ _) rfl ?_
    exact ⟨rfl, Below.refl _ _⟩
  · go_enter Tryd.func13, Tryd.ntmps13
    go_wp2_with (first
      | ((go_at_call 39); (with_reducible refine (HA.out _ (Below.refl _ _)).mono ?_); (rintro e w1 ⟨rfl, rfl⟩))
      | ((go_at_call 39); (with_reducible refine (HB.out _ (Below.refl _ _)).mono ?_); (rintro e w2 ⟨rfl, rfl⟩)))
    refine bodyPost_ret (results_tmp2 rfl _ _ _) rfl ?_
    exact ⟨rfl, Below.refl _ _⟩
set_option maxHeartbeats 2000000 in
set_option maxRecDepth 100000 in
theorem times_none_rows (A B : Option Addr) (ca cb : Nat) (a b : List Int) (w : World) (hp : PrimesAt w)
    (ha : ReadsInt w .u64 A a.length a) (hb : ReadsInt w .u64 B b.length b) (hca : a.length ≤ ca) (hcb : b.length ≤ cb) (hwa : a.any wideV = false) (hwb : b.any wideV = false) (hn : a = [] ∨ b = []) :
    Calls Tryd.prog 13 #[.slice A a.length ca, .slice B b.length cb] w fun e w' => ∃ v, e = .returned (.tuple #[v, .int .i64 0]) ∧ Kd.R k41 41 w' w.heap.size (fun _ => True) v [] ∧ Below w.heap.size w w' := by
  have HA := Aside0.mk (fun W h => contains_wide A ca a W (ReadsInt.below ha h))
  have HB := Aside0.mk (fun W h => contains_wide B cb b W (ReadsInt.below hb h))
  have HM := Aside0.mk (fun W h v hv => mod_none v hv A B a.length b.length ca cb a b W (hp.later h) (ReadsInt.below ha h) (ReadsInt.below hb h) hca hcb hn)
  have HP := Aside0.mk hp
  rw [hwa] at HA
  rw [hwb] at HB
  clear ha hb hp
  generalize a.length = la at *
  generalize b.length = lb at *
  go_enter Tryd.func13, Tryd.ntmps13
  go_wp2_with (first
    | ((go_at_call 39); (with_reducible refine (HA.out _ (Below.refl _ _)).mono ?_); (rintro e w1 ⟨rfl, rfl⟩))
    | ((go_at_call 39); (with_reducible refine (HB.out _ (Below.refl _ _)).mono ?_); (rintro e w2 ⟨rfl, rfl⟩)))
  go_loopw [21] (fun v21 wr => ∃ k : Nat, v21 = .int .i64 (k : Int) ∧ k ≤ 3 ∧ Aside0 (wr.heap[w2.heap.size]? = some (.cells #[.slice none 0 0, .slice none 0 0, .slice none 0 0] 74 (0, 0))) ∧ Aside0 (Below w2.heap.size w2 wr)) (fun v21 _ => 3 - (intOf v21).toNat)
  case atStart => exact ⟨0, rfl, Nat.zero_le _, ⟨blk_new _ _⟩, ⟨below_alloc (Below.refl _ _) _⟩⟩
  case round =>
    obtain ⟨k, rfl, hk3, HC, HBW⟩ := hrel
    by_cases hlt : k < 3
    · have qp : wr.cell? ⟨0, k, none⟩ = some (.int .u32 (prn k : Int)) := (HP.out.later HBW.out).at k hlt
      have hlt' : (k : Int) < 3 := by omega
      have hlt0 : (0 : Int) ≤ (k : Int) := by omega
      have HM1 := Aside0.mk (fun W h => HM.out W h (prn k : Int) (by rcases prn_is k with e | e | e <;> simp [e]))
      go_wp2_with ((go_at_call 11); (with_reducible refine (HM1.out _ HBW.out).mono ?_); (rintro e w3 ⟨rfl, hb⟩); (have hc3 := blk_below HC.out hb); (have HB3 := Aside0.mk (below_on HBW.out hb)); (have q3 : w3.cell? ⟨w2.heap.size, k, none⟩ = some (.slice none 0 0) := cell_of3 hc3 k hlt); (have f3 : w3.frozen? ⟨w2.heap.size, k, none⟩ = false := blk_frozen hc3 k); (have HC3 := Aside0.mk hc3); (clear hb hc3))
      have hc := set_of3 (cs := fun _ => .slice none 0 0) (v := .slice none 0 0) HC3.out hlt
      simp only [ite_self] at hc
      exact ⟨⟨k + 1, by congr 1, hlt, ⟨hc⟩, ⟨set_below HB3.out (Nat.le_refl _)⟩⟩, by simp only [intOf]; omega⟩
    · obtain rfl : k = 3 := by omega
      have q0 : wr.cell? ⟨w2.heap.size, 0, none⟩ = some (.slice none 0 0) := blk_cell HC.out 0
      go_wp2_with ((with_reducible refine gate_dst (N := 43) rfl ?_); (try (refine gate_guard (by rfl) ?_; dsimp only)); refine Kd.R_make k41 _ 41 rfl (N := 43) rfl 31 _ _ rfl 0 rfl rfl Tryd.underlying31 (.agg #[(.int .u64 0), (.int .u64 0)]) 16 info41 rfl (by decide) (by omega) z41 (ok := fun _ => True) (okp := fun _ => True) (k41_mkM _ _ _ z41) (fun _ hk => hk) trivial (by decide) (by decide) (Below.refl _ _) (Nat.le_refl _) ?_; intro v w17 ho hb hg_ hnew_; clear hg_ hnew_; replace ho : Kd.R k41 41 w17 wr.heap.size (fun _ => True) v [] := ho; have HO := Aside0.mk (Kd.R_lower ho HBW.out.size); have HB1 := Aside0.mk (below_on HBW.out hb); obtain ⟨A1, c1, e1⟩ := Kd.R_slice ho; rw [List.length_nil] at e1; subst e1; clear ho hb)
      go_loopw [46] (fun v46 w' => v46 = .int .i64 0 ∧ Aside0 (Kd.R k41 41 w' w2.heap.size (fun _ => True) (.slice A1 0 c1) []) ∧ Aside0 (Below w2.heap.size w2 w')) (fun _ _ => 0)
      case atStart => exact ⟨rfl, HO, HB1⟩
      case round =>
        obtain ⟨rfl, HO2, HB2⟩ := hrel
        go_wp2
        refine bodyPost_ret (results_tmp2 rfl _ _ _) rfl ?_
        exact ⟨_, rfl, HO2.out, HB2.out⟩
set_option maxHeartbeats 8000000 in
set_option maxRecDepth 100000 in
theorem times_main (A B : Option Addr) (ca cb : Nat) (a b : List Int) (w : World) (hp : PrimesAt w)
    (ha : ReadsInt w .u64 A a.length a) (hb : ReadsInt w .u64 B b.length b) (hca : a.length ≤ ca) (hcb : b.length ≤ cb) (hwa : a.any wideV = false) (hwb : b.any wideV = false) (hia : Num.InB Num.W a) (hib : Num.InB Num.W b)
    (hla : a.length ≤ 1024) (hlb : b.length ≤ 1024) (ha0 : 0 < a.length) (hb0 : 0 < b.length) (hlt : ∀ t, cS a b a.length t < 78674626319836206717730817) :
    Calls Tryd.prog 13 #[.slice A a.length ca, .slice B b.length cb] w fun e w' => ∃ v, e = .returned (.tuple #[v, .int .i64 0]) ∧ Kd.R k41 41 w' w.heap.size (fun _ => True) v ((List.range (a.length + b.length - 1)).map fun t => pairN (cS a b a.length t)) ∧ Below w.heap.size w w' := by
  have HA := Aside0.mk (fun W h => contains_wide A ca a W (ReadsInt.below ha h))
  have HB := Aside0.mk (fun W h => contains_wide B cb b W (ReadsInt.below hb h))
  have hM : ∀ W, Below w.heap.size w W → ∀ k, Calls Tryd.prog 11 #[.slice A a.length ca, .slice B b.length cb, .int .u32 (prn k : Int)] W fun e w' => ∃ g, e = .returned (.tuple #[.slice (some ⟨g, 0, none⟩) (a.length + b.length - 1) (a.length + b.length - 1), .int .i64 0]) ∧
      ReadsInt w' .u32 (some ⟨g, 0, none⟩) (a.length + b.length - 1) (rowP a b k) ∧ W.heap.size ≤ g ∧ Below W.heap.size W w' := fun W h k =>
    trio_mod_rows (prn k) (prn_is k) A B a.length b.length ca cb a b W (hp.later h) (ReadsInt.below ha h) (ReadsInt.below hb h) hca hcb hia hib hla hlb ha0 hb0
  have HM := Aside0.mk hM
  have HP := Aside0.mk hp
  have HLT := Aside0.mk hlt
  rw [hwa] at HA
  rw [hwb] at HB
  have HC : Aside0 (∀ j t, t < a.length + b.length - 1 → (rowP a b j).getD t 0 = ((cS a b a.length t % prn j : Nat) : Int)) := ⟨fun j t ht => by
    unfold rowP
    rw [List.getD_eq_getElem?_getD, List.getElem?_eq_getElem (by simpa using ht)]
    simp⟩
  generalize hco : cS a b a.length = co at *
  have hmany : 0 < a.length + b.length - 1 := by omega
  have hmx : a.length + b.length - 1 ≤ 2047 := by omega
  generalize hmn : a.length + b.length - 1 = many at *
  clear ha hb hp hM hlt ha0 hb0 hla hlb hia hib hco hmn hwa hwb hca hcb
  generalize a.length = la at *
  generalize b.length = lb at *
  go_enter Tryd.func13, Tryd.ntmps13
  go_wp2_with (first
    | ((go_at_call 39); (with_reducible refine (HA.out _ (Below.refl _ _)).mono ?_); (rintro e w1 ⟨rfl, rfl⟩))
    | ((go_at_call 39); (with_reducible refine (HB.out _ (Below.refl _ _)).mono ?_); (rintro e w2 ⟨rfl, rfl⟩)))
  go_loopw [21] (fun v21 wr => ∃ k : Nat, v21 = .int .i64 (k : Int) ∧ k ≤ 3 ∧ Aside0 (Three a b w2.heap.size many k wr) ∧ Aside0 (Below w2.heap.size w2 wr)) (fun v21 _ => 3 - (intOf v21).toNat)
  case atStart => exact ⟨0, rfl, Nat.zero_le _, ⟨⟨_, fun _ => .slice none 0 0, blk_new _ _, fun j hj => absurd hj (by omega)⟩⟩, ⟨below_alloc (Below.refl _ _) _⟩⟩
  case round =>
    obtain ⟨k, rfl, hk3, HT, HBW⟩ := hrel
    by_cases hlt : k < 3
    · have qp : wr.cell? ⟨0, k, none⟩ = some (.int .u32 (prn k : Int)) := (HP.out.later HBW.out).at k hlt
      have hlt' : (k : Int) < 3 := by omega
      have hlt0 : (0 : Int) ≤ (k : Int) := by omega
      go_wp2_with ((go_at_call 11); (with_reducible refine (HM.out _ HBW.out k).mono ?_); (rintro e w3 ⟨g, rfl, hr3, hg3, hb⟩); (have HR3 := Aside0.mk hr3); (have ht3 := HT.out.later hb); (have HT3 := Aside0.mk ht3); (obtain ⟨v3, q3, f3⟩ := ht3.cell k hlt); (have HB3 := Aside0.mk (below_on HBW.out hb)); (have HG3 : Aside0 (w2.heap.size < g) := ⟨HT.out.lt hg3⟩); (clear hb hr3 ht3 hg3))
      exact ⟨⟨k + 1, by congr 1, hlt, ⟨HT3.out.put hlt HG3.out HR3.out⟩, ⟨set_below HB3.out (Nat.le_refl _)⟩⟩, by simp only [intOf]; omega⟩
    · obtain rfl : k = 3 := by omega
      obtain ⟨T, cs, hcs, hrs⟩ := HT.out.out
      obtain ⟨g0, l0, e0, r0⟩ := hrs 0 (by decide)
      obtain ⟨g1, l1, e1, r1⟩ := hrs 1 (by decide)
      obtain ⟨g2, l2, e2, r2⟩ := hrs 2 (by decide)
      rw [e0, e1, e2] at hcs
      have q0 : wr.cell? ⟨w2.heap.size, 0, none⟩ = some (.slice (some ⟨g0, 0, none⟩) many many) := blk_cell hcs 0
      have q1 : wr.cell? ⟨w2.heap.size, 1, none⟩ = some (.slice (some ⟨g1, 0, none⟩) many many) := blk_cell hcs 1
      have q2 : wr.cell? ⟨w2.heap.size, 2, none⟩ = some (.slice (some ⟨g2, 0, none⟩) many many) := blk_cell hcs 2
      have HQ0 := Aside0.mk q0
      have HQ1 := Aside0.mk q1
      have HQ2 := Aside0.mk q2
      have R0 := Aside0.mk r0
      have R1 := Aside0.mk r1
      have R2 := Aside0.mk r2
      clear hcs hrs r0 r1 r2 e0 e1 e2 l0 l1 l2 q1 q2 hlt HT
      obtain ⟨wM, hwM⟩ : ∃ wM, wM = wr := ⟨_, rfl⟩
      subst hwM
      have h0m : (0 : Int) ≤ (many : Int) := by omega
      have hlm : ((many : Int)).toNat * 16 ≤ 281474976710656 := by omega
      go_wp2_with ((with_reducible refine gate_dst (N := 43) rfl ?_); (try (refine gate_guard (by rfl) ?_; dsimp only)); refine Kd.R_make k41 _ 41 rfl (N := 43) rfl 31 _ _ rfl (many : Int) rfl rfl Tryd.underlying31 (.agg #[(.int .u64 0), (.int .u64 0)]) 16 info41 rfl (by decide) (by omega) z41 (ok := fun _ => True) (okp := fun _ => True) (k41_mkM _ _ _ z41) (fun _ hk => hk) trivial h0m hlm (Below.refl _ _) (Nat.le_refl _) ?_; intro v w17 ho hb hg_ hnew_; clear hg_ hnew_; (rw [Int.toNat_natCast] at ho); (obtain ⟨go, co', ev, hgo1, hgo2, _⟩ := Kd.R_form ho (by rw [List.length_replicate]; exact hmany)); (rw [List.length_replicate] at ev); subst ev; have HO := Aside0.mk ho; have HB1 := Aside0.mk hb; have HGO := Aside0.mk hgo1; clear ho hb hgo1 hgo2)
      go_loopw [46] (fun v46 w' => ∃ (k : Nat) (xs : List S41), v46 = .int .i64 (k : Int) ∧ k ≤ many ∧ Aside0 (xs.length = many ∧ ∀ t, t < k → xs.getD t z41 = pairN (co t)) ∧ Aside0 (Kd.R k41 41 w' wM.heap.size (fun _ => True) (.slice (some ⟨go, 0, none⟩) many co') xs) ∧ Aside0 (Below wM.heap.size wM w')) (fun v46 _ => many - (intOf v46).toNat)
      case atStart => exact ⟨0, _, rfl, Nat.zero_le _, ⟨by simp, fun t ht => absurd ht (by omega)⟩, HO, HB1⟩
      case round =>
        obtain ⟨k, xs, rfl, hkm, HX, HO2, HB2⟩ := hrel
        by_cases hlt : k < many
        · have hlt' : (k : Int) < (many : Int) := by omega
          have hlt0 : (0 : Int) ≤ (k : Int) := by omega
          have D0 := Aside0.mk (cell_later HQ0.out HB2.out)
          have D1 := Aside0.mk (cell_later HQ1.out HB2.out)
          have D2 := Aside0.mk (cell_later HQ2.out HB2.out)
          have D3 := Aside0.mk (cell_later (reads_cell R0.out k hlt) HB2.out)
          have D4 := Aside0.mk (cell_later (reads_cell R1.out k hlt) HB2.out)
          have D5 := Aside0.mk (cell_later (reads_cell R2.out k hlt) HB2.out)
          have E3 := Aside0.mk (reads_cell R0.out k hlt)
          have E4 := Aside0.mk (reads_cell R1.out k hlt)
          have E5 := Aside0.mk (reads_cell R2.out k hlt)
          rw [HC.out 0 k hlt] at D3 E3
          rw [HC.out 1 k hlt] at D4 E4
          rw [HC.out 2 k hlt] at D5 E5
          have hJ : ∀ W, Calls Tryd.prog 19 #[.agg #[.int .u32 ((co k % prn 0 : Nat) : Int), .int .u32 ((co k % prn 1 : Nat) : Int), .int .u32 ((co k % prn 2 : Nat) : Int)]] W fun e w' => e = .returned (.agg #[.int .u64 (pairN (co k)).f0, .int .u64 (pairN (co k)).f1]) ∧ Below W.heap.size W w' := fun W => join_back (HLT.out k) W
          generalize hpx : pairN (co k) = px at *
          have HPX := Aside0.mk hpx
          have HJ := Aside0.mk hJ
          generalize ((co k % prn 0 : Nat) : Int) = x0 at *
          generalize ((co k % prn 1 : Nat) : Int) = x1 at *
          generalize ((co k % prn 2 : Nat) : Int) = x2 at *
          clear hpx hJ
          obtain ⟨px0, px1⟩ := px
          dsimp only at HJ
          have HGB : Aside0 (wM.heap.size ≤ go) := HGO
          have hu41 := Tryd.underlying41
          have hu47 := Tryd.underlying47
          go_wp2
          refine wp_region_held_drew (S := fun w' => w'.cell? ⟨w2.heap.size, 0, none⟩ = some (.slice (some ⟨g0, 0, none⟩) many many) ∧ w'.cell? ⟨w2.heap.size, 1, none⟩ = some (.slice (some ⟨g1, 0, none⟩) many many) ∧ w'.cell? ⟨w2.heap.size, 2, none⟩ = some (.slice (some ⟨g2, 0, none⟩) many many) ∧ w'.cell? ⟨g0, k, none⟩ = some (.int .u32 x0) ∧ w'.cell? ⟨g1, k, none⟩ = some (.int .u32 x1) ∧ w'.cell? ⟨g2, k, none⟩ = some (.int .u32 x2)) (by kernel_rfl) ⟨cell_later D0.out (by repeat (with_reducible first | exact Below.refl _ _ | apply below_on' HBJ.out | apply below_drew | apply below_alloc)), cell_later D1.out (by repeat (with_reducible first | exact Below.refl _ _ | apply below_on' HBJ.out | apply below_drew | apply below_alloc)), cell_later D2.out (by repeat (with_reducible first | exact Below.refl _ _ | apply below_on' HBJ.out | apply below_drew | apply below_alloc)), cell_later D3.out (by repeat (with_reducible first | exact Below.refl _ _ | apply below_on' HBJ.out | apply below_drew | apply below_alloc)), cell_later D4.out (by repeat (with_reducible first | exact Below.refl _ _ | apply below_on' HBJ.out | apply below_drew | apply below_alloc)), cell_later D5.out (by repeat (with_reducible first | exact Below.refl _ _ | apply below_on' HBJ.out | apply below_drew | apply below_alloc))⟩ (fun hHeld => ?_)
          (refine wpAnyH_take (i := 0) (v := ?_) rfl (by kernel_rfl) (by kernel_rfl) (by kernel_rfl) (fun _ _ _ h => h) (Or.inl ⟨by rfl, ?_⟩) (by assumption) ?_); rotate_left; (focus (intro w' hSw; (try dsimp only at hSw); first | (go_simp; done) | (go_simp; with_reducible rfl))); (try simp only [Act.put, List.setIfInBounds_toArray, List.set_cons_zero, List.set_cons_succ, List.getElem_toArray, List.getElem_cons_zero, List.getElem_cons_succ])
          (refine wpAnyH_take (i := 1) (v := ?_) rfl (by kernel_rfl) (by kernel_rfl) (by kernel_rfl) (fun _ _ _ h => h) (Or.inl ⟨by rfl, ?_⟩) (by assumption) ?_); rotate_left; (focus (intro w' hSw; (try dsimp only at hSw); first | (go_simp; done) | (go_simp; with_reducible rfl))); (try simp only [Act.put, List.setIfInBounds_toArray, List.set_cons_zero, List.set_cons_succ, List.getElem_toArray, List.getElem_cons_zero, List.getElem_cons_succ])
          (refine wpAnyH_take (i := 2) (v := ?_) rfl (by kernel_rfl) (by kernel_rfl) (by kernel_rfl) (fun _ _ _ h => h) (Or.inl ⟨by rfl, ?_⟩) (by assumption) ?_); rotate_left; (focus (intro w' hSw; (try dsimp only at hSw); first | (go_simp; done) | (go_simp; with_reducible rfl))); (try simp only [Act.put, List.setIfInBounds_toArray, List.set_cons_zero, List.set_cons_succ, List.getElem_toArray, List.getElem_cons_zero, List.getElem_cons_succ])
          (refine wpAnyH_take (i := 3) (v := ?_) rfl (by kernel_rfl) (by kernel_rfl) (by kernel_rfl) (fun _ _ _ h => h) (Or.inl ⟨by rfl, ?_⟩) (by assumption) ?_); rotate_left; (focus (intro w' hSw; (try dsimp only at hSw); first | (go_simp; done) | (go_simp; with_reducible rfl))); (try simp only [Act.put, List.setIfInBounds_toArray, List.set_cons_zero, List.set_cons_succ, List.getElem_toArray, List.getElem_cons_zero, List.getElem_cons_succ])
          (refine wpAnyH_take (i := 4) (v := ?_) rfl (by kernel_rfl) (by kernel_rfl) (by kernel_rfl) (fun _ _ _ h => h) (Or.inl ⟨by rfl, ?_⟩) (by assumption) ?_); rotate_left; (focus (intro w' hSw; (try dsimp only at hSw); first | (go_simp; done) | (go_simp; with_reducible rfl))); (try simp only [Act.put, List.setIfInBounds_toArray, List.set_cons_zero, List.set_cons_succ, List.getElem_toArray, List.getElem_cons_zero, List.getElem_cons_succ])
          (refine wpAnyH_take (i := 5) (v := ?_) rfl (by kernel_rfl) (by kernel_rfl) (by kernel_rfl) (fun _ _ _ h => h) (Or.inl ⟨by rfl, ?_⟩) (by assumption) ?_); rotate_left; (focus (intro w' hSw; (try dsimp only at hSw); first | (go_simp; done) | (go_simp; with_reducible rfl))); (try simp only [Act.put, List.setIfInBounds_toArray, List.set_cons_zero, List.set_cons_succ, List.getElem_toArray, List.getElem_cons_zero, List.getElem_cons_succ])
          (refine wpAnyH_take (i := 6) (v := ?_) rfl (by kernel_rfl) (by kernel_rfl) (by kernel_rfl) (fun _ _ _ h => h) (Or.inl ⟨by rfl, ?_⟩) (by assumption) ?_); rotate_left; (focus (intro w' hSw; (try dsimp only at hSw); first | (go_simp; done) | (go_simp; with_reducible rfl))); (try simp only [Act.put, List.setIfInBounds_toArray, List.set_cons_zero, List.set_cons_succ, List.getElem_toArray, List.getElem_cons_zero, List.getElem_cons_succ])
          (refine wpAnyH_take (i := 7) (v := ?_) rfl (by kernel_rfl) (by kernel_rfl) (by kernel_rfl) (fun _ _ _ h => h) (Or.inl ⟨by rfl, ?_⟩) (by assumption) ?_); rotate_left; (focus (intro w' hSw; (try dsimp only at hSw); first | (go_simp; done) | (go_simp; with_reducible rfl))); (try simp only [Act.put, List.setIfInBounds_toArray, List.set_cons_zero, List.set_cons_succ, List.getElem_toArray, List.getElem_cons_zero, List.getElem_cons_succ])
          (refine wpAnyH_take (i := 8) (v := ?_) rfl (by kernel_rfl) (by kernel_rfl) (by kernel_rfl) (fun _ _ _ h => h) (Or.inl ⟨by rfl, ?_⟩) (by assumption) ?_); rotate_left; (focus (intro w' hSw; (try dsimp only at hSw); first | (go_simp; done) | (go_simp; with_reducible rfl))); (try simp only [Act.put, List.setIfInBounds_toArray, List.set_cons_zero, List.set_cons_succ, List.getElem_toArray, List.getElem_cons_zero, List.getElem_cons_succ])
          (refine wpAnyH_take (i := 9) (v := ?_) rfl (by kernel_rfl) (by kernel_rfl) (by kernel_rfl) (fun _ _ _ h => h) (Or.inl ⟨by rfl, ?_⟩) (by assumption) ?_); rotate_left; (focus (intro w' hSw; (try dsimp only at hSw); first | (go_simp; done) | (go_simp; with_reducible rfl))); (try simp only [Act.put, List.setIfInBounds_toArray, List.set_cons_zero, List.set_cons_succ, List.getElem_toArray, List.getElem_cons_zero, List.getElem_cons_succ])
          (refine wpAnyH_take (i := 10) (v := ?_) rfl (by kernel_rfl) (by kernel_rfl) (by kernel_rfl) (fun _ _ _ h => h) (Or.inl ⟨by rfl, ?_⟩) (by assumption) ?_); rotate_left; (focus (intro w' hSw; (try dsimp only at hSw); first | (go_simp; done) | (go_simp; with_reducible rfl))); (try simp only [Act.put, List.setIfInBounds_toArray, List.set_cons_zero, List.set_cons_succ, List.getElem_toArray, List.getElem_cons_zero, List.getElem_cons_succ])
          (refine wpAnyH_take (i := 11) (v := ?_) rfl (by kernel_rfl) (by kernel_rfl) (by kernel_rfl) (fun _ _ _ h => h) (Or.inl ⟨by rfl, ?_⟩) (by assumption) ?_); rotate_left; (focus (intro w' hSw; (try dsimp only at hSw); first | (go_simp; done) | (go_simp; with_reducible rfl))); (try simp only [Act.put, List.setIfInBounds_toArray, List.set_cons_zero, List.set_cons_succ, List.getElem_toArray, List.getElem_cons_zero, List.getElem_cons_succ])
          (refine wpAnyH_take (i := 12) (v := ?_) rfl (by kernel_rfl) (by kernel_rfl) (by kernel_rfl) (fun _ _ _ h => h) (Or.inl ⟨by rfl, ?_⟩) (by assumption) ?_); rotate_left; (focus (intro w' hSw; (try dsimp only at hSw); first | (go_simp; done) | (go_simp; with_reducible rfl))); (try simp only [Act.put, List.setIfInBounds_toArray, List.set_cons_zero, List.set_cons_succ, List.getElem_toArray, List.getElem_cons_zero, List.getElem_cons_succ])
          (refine wpAnyH_take (i := 13) (v := ?_) rfl (by kernel_rfl) (by kernel_rfl) (by kernel_rfl) (fun _ _ _ h => h) (Or.inl ⟨by rfl, ?_⟩) (by assumption) ?_); rotate_left; (focus (intro w' hSw; (try dsimp only at hSw); first | (go_simp; done) | (go_simp; with_reducible rfl))); (try simp only [Act.put, List.setIfInBounds_toArray, List.set_cons_zero, List.set_cons_succ, List.getElem_toArray, List.getElem_cons_zero, List.getElem_cons_succ])
          (refine wpAnyH_take (i := 14) (v := ?_) rfl (by kernel_rfl) (by kernel_rfl) (by kernel_rfl) (fun _ _ _ h => h) (Or.inl ⟨by rfl, ?_⟩) (by assumption) ?_); rotate_left; (focus (intro w' hSw; (try dsimp only at hSw); first | (go_simp; done) | (go_simp; with_reducible rfl))); (try simp only [Act.put, List.setIfInBounds_toArray, List.set_cons_zero, List.set_cons_succ, List.getElem_toArray, List.getElem_cons_zero, List.getElem_cons_succ])
          (refine wpAnyH_take (i := 15) (v := ?_) rfl (by kernel_rfl) (by kernel_rfl) (by kernel_rfl) (fun _ _ _ h => h) (Or.inl ⟨by rfl, ?_⟩) (by assumption) ?_); rotate_left; (focus (intro w' hSw; (try dsimp only at hSw); first | (go_simp; done) | (go_simp; with_reducible rfl))); (try simp only [Act.put, List.setIfInBounds_toArray, List.set_cons_zero, List.set_cons_succ, List.getElem_toArray, List.getElem_cons_zero, List.getElem_cons_succ])
          (refine wpAnyH_take (i := 16) (v := ?_) rfl (by kernel_rfl) (by kernel_rfl) (by kernel_rfl) (fun _ _ _ h => h) (Or.inl ⟨by rfl, ?_⟩) (by assumption) ?_); rotate_left; (focus (intro w' hSw; (try dsimp only at hSw); first | (go_simp; done) | (go_simp; with_reducible rfl))); (try simp only [Act.put, List.setIfInBounds_toArray, List.set_cons_zero, List.set_cons_succ, List.getElem_toArray, List.getElem_cons_zero, List.getElem_cons_succ])
          (refine wpAnyH_take (i := 17) (v := ?_) rfl (by kernel_rfl) (by kernel_rfl) (by kernel_rfl) (fun _ _ _ h => h) (Or.inl ⟨by rfl, ?_⟩) (by assumption) ?_); rotate_left; (focus (intro w' hSw; (try dsimp only at hSw); first | (go_simp; done) | (go_simp; with_reducible rfl))); (try simp only [Act.put, List.setIfInBounds_toArray, List.set_cons_zero, List.set_cons_succ, List.getElem_toArray, List.getElem_cons_zero, List.getElem_cons_succ])
          refine wpAnyH_ready (rs := [18]) (by kernel_rfl) (by simp) ?_
          refine AllReadyH.cons rfl (fun K hK => ?_) AllReadyH.nil
          go_simp
          refine (HJ.out _).mono ?_
          rintro e9 w9 ⟨rfl, hb⟩
          have HBJ := Aside0.mk hb
          have hbm : Below wr.heap.size wr w9 := (by repeat (with_reducible first | exact Below.refl _ _ | apply below_on' HBJ.out | apply below_drew | apply below_alloc))
          have HBM := Aside0.mk hbm
          have R9 := Aside0.mk (Kd.R_below HO2.out hbm)
          clear hb hbm
          refine hK.out _ _ ⟨cell_later D0.out (by repeat (with_reducible first | exact Below.refl _ _ | apply below_on' HBJ.out | apply below_drew | apply below_alloc)), cell_later D1.out (by repeat (with_reducible first | exact Below.refl _ _ | apply below_on' HBJ.out | apply below_drew | apply below_alloc)), cell_later D2.out (by repeat (with_reducible first | exact Below.refl _ _ | apply below_on' HBJ.out | apply below_drew | apply below_alloc)), cell_later D3.out (by repeat (with_reducible first | exact Below.refl _ _ | apply below_on' HBJ.out | apply below_drew | apply below_alloc)), cell_later D4.out (by repeat (with_reducible first | exact Below.refl _ _ | apply below_on' HBJ.out | apply below_drew | apply below_alloc)), cell_later D5.out (by repeat (with_reducible first | exact Below.refl _ _ | apply below_on' HBJ.out | apply below_drew | apply below_alloc))⟩ (fun hHeld2 => ?_)
          clear hK K
          obtain ⟨ce, hcl, hM, hcc, hfr⟩ := Kd.R_elem R9.out z41 (k : Int) hlt0 hlt'
          obtain rfl := k41_openM hM
          have HP9 := Aside0.mk (Kd.R_seg R9.out (k : Int) hlt0 hlt' (seg := [.int .u64 px0, .int .u64 px1]) (j := 0) hcl hcc (show 2 ≤ 2 from by decide) (x' := (⟨px0, px1⟩ : S41)) (k41_mkM _ _ _ (⟨px0, px1⟩ : S41)) (fun _ hk => hk)).1
          have y0 : w9.cell? ⟨go, k * 2, none⟩ = some (.int .u64 (xs.getD k z41).f0) := hcc 0 _ rfl
          have y1 : w9.cell? ⟨go, k * 2 + 1, none⟩ = some (.int .u64 (xs.getD k z41).f1) := hcc 1 _ rfl
          have f0 : w9.frozen? ⟨go, k * 2, none⟩ = false := hfr 0
          have f1 : w9.frozen? ⟨go, k * 2 + 1, none⟩ = false := hfr 1
          have HS9 : Aside0 (Below wM.heap.size wM ((w9.setCell ⟨go, k * 2, none⟩ (.int .u64 px0)).setCell ⟨go, k * 2 + 1, none⟩ (.int .u64 px1))) := ⟨set_below (set_below (below_on HB2.out HBM.out) HGB.out) HGB.out⟩
          clear hcl hcc hfr hM
          (refine wpAnyH_take (i := 19) (v := ?_) rfl (by kernel_rfl) (by kernel_rfl) (by kernel_rfl) (fun _ _ _ h => h) (Or.inl ⟨by rfl, ?_⟩) (by assumption) ?_); rotate_left; (focus (intro w' hSw; (try dsimp only at hSw); first | (go_simp; done) | (go_simp; with_reducible rfl))); (try simp only [Act.put, List.setIfInBounds_toArray, List.set_cons_zero, List.set_cons_succ, List.getElem_toArray, List.getElem_cons_zero, List.getElem_cons_succ])
          refine wpAnyH_ready (rs := [20]) (by kernel_rfl) (by simp) ?_
          refine AllReadyH.cons rfl (fun K hK => ?_) AllReadyH.nil
          go_simp
          refine hK.out _ _ ⟨cell_later HQ0.out HS9.out, cell_later HQ1.out HS9.out, cell_later HQ2.out HS9.out, cell_later E3.out HS9.out, cell_later E4.out HS9.out, cell_later E5.out HS9.out⟩ (fun hHeld3 => ?_)
          clear hK K
          (try simp only [Act.put, List.setIfInBounds_toArray, List.set_cons_zero, List.set_cons_succ, List.getElem_toArray, List.getElem_cons_zero, List.getElem_cons_succ])
          refine wpAnyH_done (by kernel_rfl) ?_ _
          have HXS : Aside0 ((xs.set (k : Int).toNat (⟨px0, px1⟩ : S41)).length = many ∧ ∀ t, t < k + 1 → (xs.set (k : Int).toNat (⟨px0, px1⟩ : S41)).getD t z41 = pairN (co t)) := ⟨by
            obtain ⟨hl, hx⟩ := HX.out
            refine ⟨by simp [hl], fun t ht => ?_⟩
            rw [Int.toNat_natCast, List.getD_eq_getElem?_getD, List.getElem?_set]
            by_cases hkt : k = t
            · subst hkt
              rw [if_pos rfl, if_pos (by omega), ← HPX.out]
              rfl
            · rw [if_neg hkt, ← List.getD_eq_getElem?_getD]
              exact hx t (by omega)⟩
          all_goals
            go_wp2
            refine ⟨⟨k + 1, _, by congr 1, hlt, HXS, HP9, HS9⟩, by simp only [intOf]; omega⟩
        · obtain rfl : many = k := by omega
          go_wp2
          refine bodyPost_ret (results_tmp2 rfl _ _ _) rfl ?_
          refine ⟨_, rfl, ?_, below_on HBW.out HB2.out⟩
          have hx : xs = (List.range many).map fun t => pairN (co t) := by
            obtain ⟨hl, hx⟩ := HX.out
            refine List.ext_getElem (by simp [hl]) fun t h1 h2 => ?_
            have e1 : xs[t] = xs.getD t z41 := by rw [List.getD_eq_getElem?_getD, List.getElem?_eq_getElem h1]; rfl
            rw [e1, hx t (by omega)]
            simp
          rw [← hx]
          exact Kd.R_lower HO2.out HBW.out.size
/-- What trio.Times answers at rows of 1024 places at most. -/
theorem trio_times (A B : Option Addr) (ca cb : Nat) (a b : List Int) (w : World) (hp : PrimesAt w)
    (ha : ReadsInt w .u64 A a.length a) (hb : ReadsInt w .u64 B b.length b) (hca : a.length ≤ ca) (hcb : b.length ≤ cb) (hia : Num.InB Num.W a) (hib : Num.InB Num.W b) (hla : a.length ≤ 1024) (hlb : b.length ≤ 1024) :
    Calls Tryd.prog 13 #[.slice A a.length ca, .slice B b.length cb] w fun e w' => ∃ v, e = .returned (.tuple #[v, .int .i64 (timesV a b).2]) ∧ Kd.R k41 41 w' w.heap.size (fun _ => True) v (timesV a b).1 ∧ Below w.heap.size w w' := by
  unfold timesV
  by_cases hw : (a.any wideV || b.any wideV) = true
  · rw [if_pos hw]
    refine (times_wide_rows A B ca cb a b w ha hb hw).mono ?_
    rintro e w' ⟨rfl, hbl⟩
    exact ⟨_, rfl, Kd.R_nil _ _ _ _ _, hbl⟩
  · rw [if_neg hw]
    have hwa : a.any wideV = false := by cases h : a.any wideV <;> simp [h] at hw ⊢
    have hwb : b.any wideV = false := by cases h : b.any wideV <;> simp [h] at hw ⊢
    by_cases hn : a = [] ∨ b = []
    · rw [if_pos hn]
      exact times_none_rows A B ca cb a b w hp ha hb hca hcb hwa hwb hn
    · rw [if_neg hn]
      have ha0 : 0 < a.length := by rcases a with _ | ⟨x, a⟩; exact absurd (.inl rfl) hn; simp
      have hb0 : 0 < b.length := by rcases b with _ | ⟨x, b⟩; exact absurd (.inr rfl) hn; simp
      exact times_main A B ca cb a b w hp ha hb hca hcb hwa hwb hia hib hla hlb ha0 hb0 (fun t => cS_below hwa hwb hla t)
end Go.Proofs.YtaakniobgljniaaDoor.Hand

/- trio's contracts by hand in the printed form (with one premise more: the package variable holds the primes). -/
namespace Go.Proofs.YtaakniobgljniaaDoor.Hand
open Go.RowKit Go.Proofs.YtaakniobgljniaaDoorW.PrintWords Go.Proofs.YtaakniobgljniaaDoorW.PrintMore Go.Proofs.YtaakniobgljniaaDoor.Pa Go.Proofs.YtaakniobgljniaaDoor.Num
set_option linter.unusedVariables false
set_option linter.unusedSimpArgs false

theorem reads_C {K : IntKind} {w : World} {A : Option Addr} {n : Nat} {l : List Int} (h : Kd.C (Kd.int K) w A n l) : ReadsInt w K A n l := Kd.reads_of_C (enc := Value.int K) (d := (0 : Int)) (h1 := fun _ => rfl) h
/-- What trio.Mod answers. -/
def modV (a b : List Int) (m : Int) : List Int × Int :=
  if m = 998244353 ∨ m = 167772161 ∨ m = 469762049 then (if a = [] ∨ b = [] then ([], 0) else ((List.range (a.length + b.length - 1)).map fun t => ((cS a b a.length t % m.toNat : Nat) : Int), 0)) else ([], 1)
theorem foot_new {w : World} {K : IntKind} {B g n : Nat} {l : List Int} (h : ReadsInt w K (some ⟨g, 0, none⟩) n l) (hg : B ≤ g) : Kd.F (Kd.int K) w (fun k_ => (B ≤ k_)) (some ⟨g, 0, none⟩) n l := fun W' hW => Kd.C_of_reads (d := (0 : Int)) (h1 := fun _ => rfl) ⟨h.1, h.2.1, fun hn => by
  obtain ⟨ad, e, hc⟩ := h.2.2 hn
  injection e with e
  subst e
  refine ⟨_, rfl, fun j hj => ?_⟩
  have hcj := hc j hj
  rw [Addr.add_lit] at hcj ⊢
  have hl := World.block_lt_of_cell? w _ hcj
  have hb := hW g hg hl
  unfold World.cell? at hcj ⊢
  rwa [hb]⟩
def trio_Mod.f (l0 l1 : List Int) (a2 : Int) : Option (List Int × Int) := if inb l0 = true ∧ inb l1 = true ∧ l0.length ≤ 1024 ∧ l1.length ≤ 1024 then some (modV l0 l1 a2) else none
theorem trio_Mod.calls (A0 : Option Addr) (c0 : Nat) (l0 : List Int) (A1 : Option Addr) (c1 : Nat) (l1 : List Int) (a2 : Int) (r1 : List Int) (r2 : Int) (w : World) (hr0 : Kd.C (Kd.int .u64) w A0 l0.length l0) (hc0 : l0.length ≤ c0) (hr1 : Kd.C (Kd.int .u64) w A1 l1.length l1) (hc1 : l1.length ≤ c1) (h : trio_Mod.f l0 l1 a2 = some (r1, r2)) (hp : PrimesAt w) :
    Calls Tryd.prog 11 #[.slice A0 l0.length c0, .slice A1 l1.length c1, .int .u32 a2] w fun e w' => ∃ v0_ : Value, e = .returned (.tuple #[v0_, .int .i64 r2]) ∧ Kd.V (Kd.int .u32) 23 w' w.heap.size (fun k_ => (w.heap.size ≤ k_)) v0_ r1 ∧ Below w.heap.size w w' := by
  unfold trio_Mod.f at h
  split at h
  · rename_i hi
    obtain ⟨h0, h1, hl0, hl1⟩ := hi
    have ha := reads_C hr0
    have hb := reads_C hr1
    have h2 := Option.some.inj h
    unfold modV at h2
    split at h2
    · rename_i h3
      split at h2
      · rename_i hn
        obtain ⟨rfl, rfl⟩ := Prod.mk.injEq .. ▸ h2
        refine (mod_none a2 h3 A0 A1 _ _ c0 c1 l0 l1 w hp ha hb hc0 hc1 hn).mono ?_
        rintro e w' ⟨rfl, hbl⟩
        exact ⟨_, rfl, Kd.V_nil _ _ _ _ _, hbl⟩
      · rename_i hn
        obtain ⟨rfl, rfl⟩ := Prod.mk.injEq .. ▸ h2
        have ha0 : 0 < l0.length := List.length_pos_iff.2 fun e => hn (.inl e)
        have hb0 : 0 < l1.length := List.length_pos_iff.2 fun e => hn (.inr e)
        obtain ⟨m, hm⟩ : ∃ m : Nat, a2 = (m : Int) := ⟨a2.toNat, by omega⟩
        subst hm
        have hm3 : isPrime3 m := by unfold isPrime3; omega
        refine (trio_mod_rows m hm3 A0 A1 _ _ c0 c1 l0 l1 w hp ha hb hc0 hc1 (inb_iff.1 h0) (inb_iff.1 h1) hl0 hl1 ha0 hb0).mono ?_
        rintro e w' ⟨g, rfl, hr, hg, hbl⟩
        refine ⟨_, rfl, ?_, hbl⟩
        rw [Int.toNat_natCast]
        have hlen : ((List.range (l0.length + l1.length - 1)).map fun t => ((cS l0 l1 l0.length t % m : Nat) : Int)).length = l0.length + l1.length - 1 := by simp
        refine ⟨_, _, by rw [hlen], Nat.le_of_eq hlen, ?_⟩
        rw [hlen]
        exact foot_new hr hg
    · rename_i h3
      obtain ⟨rfl, rfl⟩ := Prod.mk.injEq .. ▸ h2
      by_cases hn : l0 = [] ∨ l1 = []
      · refine (mod_bad a2 h3 0 0 A0 A1 _ _ c0 c1 l0 l1 w hp ha hb hc0 hc1 (places_none l0 l1 hn 64 (by decide))).mono ?_
        rintro e w' ⟨rfl, hbl⟩
        exact ⟨_, rfl, Kd.V_nil _ _ _ _ _, hbl⟩
      · obtain ⟨j, hj, hmn, hpl⟩ := places_is l0 l1 (fun e => hn (.inl e)) (fun e => hn (.inr e)) (by omega) (by omega) 64 (by decide)
        refine (mod_bad a2 h3 _ _ A0 A1 _ _ c0 c1 l0 l1 w hp ha hb hc0 hc1 hpl).mono ?_
        rintro e w' ⟨rfl, hbl⟩
        exact ⟨_, rfl, Kd.V_nil _ _ _ _ _, hbl⟩
  · cases h
def trio_Times.f (l0 l1 : List Int) : Option (List S41 × Int) := if inb l0 = true ∧ inb l1 = true ∧ l0.length ≤ 1024 ∧ l1.length ≤ 1024 then some (timesV l0 l1) else none
theorem trio_Times.calls (A0 : Option Addr) (c0 : Nat) (l0 : List Int) (A1 : Option Addr) (c1 : Nat) (l1 : List Int) (r1 : List S41) (r2 : Int) (w : World) (hr0 : Kd.C (Kd.int .u64) w A0 l0.length l0) (hc0 : l0.length ≤ c0) (hr1 : Kd.C (Kd.int .u64) w A1 l1.length l1) (hc1 : l1.length ≤ c1) (h : trio_Times.f l0 l1 = some (r1, r2)) (hp : PrimesAt w) :
    Calls Tryd.prog 13 #[.slice A0 l0.length c0, .slice A1 l1.length c1] w fun e w' => ∃ v0_ : Value, e = .returned (.tuple #[v0_, .int .i64 r2]) ∧ Kd.R k41 41 w' w.heap.size (fun _ => True) v0_ r1 ∧ Below w.heap.size w w' := by
  unfold trio_Times.f at h
  split at h
  · rename_i hi
    obtain ⟨h0, h1, hl0, hl1⟩ := hi
    have h2 := Option.some.inj h
    have h3 := trio_times A0 A1 c0 c1 l0 l1 w hp (reads_C hr0) (reads_C hr1) hc0 hc1 (inb_iff.1 h0) (inb_iff.1 h1) hl0 hl1
    rw [h2] at h3
    exact h3
  · cases h
/-- A pair's number, and what a pair may be. -/
def trio_Split.f (a0_0 a0_1 : Int) : Option (Int × Int × Int) := if 0 ≤ a0_0 ∧ a0_0 < 18446744073709551616 ∧ 0 ≤ a0_1 ∧ a0_1 < 18446744073709551616 then some (((pn a0_0.toNat a0_1.toNat % 998244353 : Nat) : Int), ((pn a0_0.toNat a0_1.toNat % 167772161 : Nat) : Int), ((pn a0_0.toNat a0_1.toNat % 469762049 : Nat) : Int)) else none
theorem trio_Split.calls (a0_0 a0_1 r1 r2 r3 : Int) (w : World) (h : trio_Split.f a0_0 a0_1 = some (r1, r2, r3)) (hp : PrimesAt w) :
    Calls Tryd.prog 18 #[.agg #[.int .u64 a0_0, .int .u64 a0_1]] w fun e w' => e = .returned (.agg #[.int .u32 r1, .int .u32 r2, .int .u32 r3]) ∧ Below w.heap.size w w' := by
  unfold trio_Split.f at h
  split at h
  · rename_i hi
    obtain ⟨x, rfl⟩ := Int.eq_ofNat_of_zero_le hi.1
    obtain ⟨y, rfl⟩ := Int.eq_ofNat_of_zero_le hi.2.2.1
    have h2 := Option.some.inj h
    rw [Int.toNat_natCast, Int.toNat_natCast] at h2
    obtain ⟨rfl, h3⟩ := Prod.mk.injEq .. ▸ h2
    obtain ⟨rfl, rfl⟩ := Prod.mk.injEq .. ▸ h3
    exact trio_split x y (by omega) (by omega) w hp
  · cases h
def trio_Join.f (a0_0 a0_1 a0_2 : Int) : Option (Int × Int) := if 0 ≤ a0_0 ∧ a0_0 < 4294967296 ∧ 0 ≤ a0_1 ∧ a0_1 < 4294967296 ∧ 0 ≤ a0_2 ∧ a0_2 < 4294967296 then some (((jn a0_0.toNat a0_1.toNat a0_2.toNat / 18446744073709551616 : Nat) : Int), ((jn a0_0.toNat a0_1.toNat a0_2.toNat % 18446744073709551616 : Nat) : Int)) else none
theorem trio_Join.calls (a0_0 a0_1 a0_2 r1 r2 : Int) (w : World) (h : trio_Join.f a0_0 a0_1 a0_2 = some (r1, r2)) :
    Calls Tryd.prog 19 #[.agg #[.int .u32 a0_0, .int .u32 a0_1, .int .u32 a0_2]] w fun e w' => e = .returned (.agg #[.int .u64 r1, .int .u64 r2]) ∧ Below w.heap.size w w' := by
  unfold trio_Join.f at h
  split at h
  · rename_i hi
    obtain ⟨x, rfl⟩ := Int.eq_ofNat_of_zero_le hi.1
    obtain ⟨y, rfl⟩ := Int.eq_ofNat_of_zero_le hi.2.2.1
    obtain ⟨z, rfl⟩ := Int.eq_ofNat_of_zero_le hi.2.2.2.2.1
    have h2 := Option.some.inj h
    rw [Int.toNat_natCast, Int.toNat_natCast, Int.toNat_natCast] at h2
    obtain ⟨rfl, rfl⟩ := Prod.mk.injEq .. ▸ h2
    exact trio_join x y z (by omega) (by omega) (by omega) w
  · cases h
end Go.Proofs.YtaakniobgljniaaDoor.Hand

/- From the row's condition (what the listed package variable reads as) to the fact that the walks use. -/
namespace Go.Proofs.YtaakniobgljniaaDoor.Hand
open Go.ChangeShapes Go.WideShapes Go.ChangeAt Go.WideElems Go.RowKit Go.Proofs.YtaakniobgljniaaDoorW.PrintWords Go.Proofs.YtaakniobgljniaaDoorW.PrintMore
set_option linter.unusedVariables false
set_option linter.unusedSimpArgs false

theorem primes_named : Tryd.prog.globalNamed "tallystick/trio.primes" = some 0 := by kernel_rfl
theorem primes_type : (Tryd.prog.globals[0]?).map (·.type) = some 58 := by kernel_rfl
theorem cell_at {cs : Array Value} {i : Nat} {v : Value} (h : (cs.toList.drop (i * 1)).take 1 = [v]) : cs[i]? = some v := by
  have h1 : ((cs.toList.drop (i * 1)).take 1)[0]? = some v := by rw [h]; rfl
  rw [List.getElem?_take, if_pos (by decide), List.getElem?_drop, Nat.mul_one, Nat.add_zero, Array.getElem?_toList] at h1
  exact h1
set_option maxRecDepth 100000 in
theorem primes_of_laid {W : World} (h : laidMetH Tryd.prog [("tallystick/trio.primes", Rows.laid_tallystick_trio_primes)] W) : Aside0 (PrimesAt W) := by
  rw [MakeChecks.laidMetH_plain _ _ _ (by kernel_rfl)] at h
  obtain ⟨ps, ⟨g0, t0, cs0, f0, p0, q0, hg0, ht0, hv0, hd0, _, _⟩, _, _⟩ := h
  obtain rfl := Option.some.inj (primes_named.symm.trans hg0)
  obtain rfl := Option.some.inj (primes_type.symm.trans ht0)
  obtain ⟨xs, m1, rfl, hx1, hlen, hn3, hel⟩ := DataW.trod_array Tryd.underlying58 hd0
  have c3 : Tryd.prog.cellsOf 23 = 1 := by kernel_rfl
  have h0 := hel 0 (by decide)
  have h1 := hel 1 (by decide)
  have h2 := hel 2 (by decide)
  have hcell := fun j => World.var?_cell hg0 hv0 j
  simp only [Rows.laid_tallystick_trio_primes, Prod.mk.injEq, DataW.agg.injEq] at hx1
  match xs, hn3, hx1, h0, h1, h2 with
  | [x0, x1, x2], _, hx1, h0, h1, h2 =>
    simp only [List.map_cons, List.map_nil, List.cons.injEq] at hx1
    obtain ⟨⟨a0, a1, a2, _⟩, _⟩ := hx1
    obtain ⟨k0, e0, f0, _⟩ := DataW.trod_int Tryd.underlying23 (show DataW.trod _ Tryd.prog W 0 _ false m1 23 _ = some x0 from h0)
    obtain ⟨k1, e1, f1, _⟩ := DataW.trod_int Tryd.underlying23 (show DataW.trod _ Tryd.prog W 0 _ false m1 23 _ = some x1 from h1)
    obtain ⟨k2, e2, f2, _⟩ := DataW.trod_int Tryd.underlying23 (show DataW.trod _ Tryd.prog W 0 _ false m1 23 _ = some x2 from h2)
    rw [f0] at a0
    rw [f1] at a1
    rw [f2] at a2
    simp only [DataW.lit.injEq, Lit.int.injEq, true_and] at a0 a1 a2
    subst a0 a1 a2
    rw [c3] at e0 e1 e2
    have g0 : cs0[0]? = some (.int .u32 998244353) := cell_at e0
    have g1 : cs0[1]? = some (.int .u32 167772161) := cell_at e1
    have g2 : cs0[2]? = some (.int .u32 469762049) := cell_at e2
    exact ⟨⟨(hcell 0).trans g0, (hcell 1).trans g1, (hcell 2).trans g2⟩⟩
end Go.Proofs.YtaakniobgljniaaDoor.Hand
