/- prod.Kara, prod.Square: the contracts, as the callers' texts take them. Conditions: words, not too many. -/
import Derived.Test.YtgoglfojjpibnaaHProdD
namespace Go.Proofs.Ytgoglfojjpibnaa.Hand
open Go.RowKit Go.Proofs.YtgoglfojjpibnaaW.PrintWords Go.Proofs.YtgoglfojjpibnaaW.PrintMore Go.Proofs.Ytgoglfojjpibnaa.Num
set_option linter.unusedVariables false
set_option linter.unusedSimpArgs false
def prod_Kara.f (l0 l1 : List Int) (a2 : Int) : Option (List Int) := if inb l0 = true ∧ inb l1 = true ∧ l0.length ≤ PLIM ∧ l1.length ≤ PLIM then some (dig W (val W l0 * val W l1)) else none
theorem prod_Kara.calls (A0 : Option Addr) (c0 : Nat) (l0 : List Int) (A1 : Option Addr) (c1 : Nat) (l1 : List Int) (a2 : Int) (r : List Int) (w : World)
    (hr0 : Kd.C (Kd.int .u64) w A0 l0.length l0) (hc0 : l0.length ≤ c0) (hr1 : Kd.C (Kd.int .u64) w A1 l1.length l1) (hc1 : l1.length ≤ c1) (h : prod_Kara.f l0 l1 a2 = some r) :
    Calls Try.prog 25 #[.slice A0 l0.length c0, .slice A1 l1.length c1, .int .i64 a2] w fun e w' => ∃ v0_ : Value, e = .returned (v0_) ∧ Kd.V (Kd.int .u64) 38 w' w.heap.size (fun k_ => (w.heap.size ≤ k_)) v0_ r ∧ Below w.heap.size w w' := by
  unfold prod_Kara.f at h
  split at h
  · rename_i hi
    cases h
    have hp : PLIM = 1073741824 := rfl
    exact calls_of_new (kara_tells a2 _ A0 A1 _ _ c0 c1 l0 l1 w (Rd.of_C hr0) (Rd.of_C hr1) hc0 hc1 (inb_iff.1 hi.1) (inb_iff.1 hi.2.1) (hp ▸ hi.2.2.1) (hp ▸ hi.2.2.2) (Nat.le_max_left _ (dig Num.W (val Num.W l1)).length) (Nat.le_max_right _ _))
  · cases h
def prod_Square.f (l0 : List Int) : Option (List Int) := if inb l0 = true ∧ l0.length ≤ PLIM then some (dig W (val W l0 * val W l0)) else none
set_option maxRecDepth 100000 in
theorem prod_Square.calls (A0 : Option Addr) (c0 : Nat) (l0 : List Int) (r : List Int) (w : World)
    (hr0 : Kd.C (Kd.int .u64) w A0 l0.length l0) (hc0 : l0.length ≤ c0) (h : prod_Square.f l0 = some r) :
    Calls Try.prog 29 #[.slice A0 l0.length c0] w fun e w' => ∃ v0_ : Value, e = .returned (v0_) ∧ Kd.V (Kd.int .u64) 38 w' w.heap.size (fun k_ => (w.heap.size ≤ k_)) v0_ r ∧ Below w.heap.size w w' := by
  unfold prod_Square.f at h
  split at h
  · rename_i hi
    cases h
    have hp : PLIM = 1073741824 := rfl
    have hk := kara_tells 24 _ A0 A0 _ _ c0 c0 l0 l0 w (Rd.of_C hr0) (Rd.of_C hr0) hc0 hc0 (inb_iff.1 hi.1) (inb_iff.1 hi.1) (hp ▸ hi.2) (hp ▸ hi.2) (Nat.le_refl _) (Nat.le_refl _)
    have HK := Aside0.mk hk
    clear hr0 hc0 hi hp hk
    refine calls_of_new ?_
    go_enter Try.func29, Try.ntmps29
    go_wp2_with ((go_at_call 25); (with_reducible refine HK.out.mono ?_); (rintro e w1 ⟨v, rfl, hv, hb1⟩); (have HV1 := Aside0.mk hv); (have HB1 := Aside0.mk hb1); (clear hv hb1))
    refine bodyPost_ret (results_tmp rfl _ _ _) rfl ?_
    exact ⟨v, rfl, HV1.out, HB1.out⟩
  · cases h
end Go.Proofs.Ytgoglfojjpibnaa.Hand
