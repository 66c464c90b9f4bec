/- QuotTimes: for every input that can be read and is of bulk at most 1048576 the law returns true, and its arguments read behind the call as before. Nothing more is asked of the input. -/
import Derived.Test.YtofknlpbnpokeaaRows
import Derived.Test.YtofknlpbnpokeaaPa8
import Derived.Test.YtofknlpbnpokeaaPureQuotTimes
import Derived.Test.YtofknlpbnpokeaaBulk
import Derived.WalkKit
import Derived.ProofKit
import Derived.OpenShut
import Derived.ShutString
import Derived.ChangeOld
import Derived.Below
import Derived.SizedLaws
import Derived.JoinedCond
import Derived.Deep.CondSized
import Derived.Test.YtofknlpbnpokeaaWSized
namespace Go.Proofs.Ytofknlpbnpokeaa.quotTimesUpto
open Go.ChangeShapes Go.WideShapes Go.ChangeAt Go.RowKit Go.Proofs.YtofknlpbnpokeaaW.PrintWords
open Go.ChangeMaps (open_string shut_string)
set_option linter.unusedVariables false
set_option linter.unusedSimpArgs false
theorem own : ownKnob Try.prog.godebug = none := by kernel_rfl
theorem laidOut : laidOutB Try.prog = true := by kernel_rfl
def IsRow (k : IntKind) (w : World) (a : Option Addr) (len cap : Nat) (zs : List Int) : Prop :=
  (a = none ∧ len = 0 ∧ cap = 0 ∧ zs = []) ∨
  ∃ x, a = some x ∧ len ≤ cap ∧ cap ≤ maxLen ∧ zs.length = cap ∧ (∀ i, i < zs.length → w.cell? (x.add i) = some (.int k (zs.getD i 0))) ∧ ∀ n ∈ zs, (Lit.int k n).wf = true
theorem row_of {H : Type} {enc : TypeId × Value → H} {P : Program} {w : World} {base : Nat} {held : Bool} {t e : TypeId} {k : IntKind} {fuel : Nat} {c : Value} {x : DataW H × List MemPlace} (ht : P.underlying t = some (.slice e)) (he : P.underlying e = some (.int k)) (hc : P.cellsOf e = 1)
    (h : DataW.trod enc P w base (fun _ => true) held fuel t [c] = some x) : ∃ a len cap zs, c = .slice a len cap ∧ IsRow k w a len cap zs := by
  rcases open_ints ht he hc h with ⟨hcs, _⟩ | ⟨x, l, c', zs, hcs, _, hl, hm, hz, _, hcell, hwz⟩
  · simp at hcs; exact ⟨none, 0, 0, [], hcs, .inl ⟨rfl, rfl, rfl, rfl⟩⟩
  · simp at hcs; exact ⟨some x, l, c', zs, hcs, .inr ⟨x, rfl, hl, hm, by simpa using hz, hcell, hwz⟩⟩
theorem upto_ints {H : Type} {enc : TypeId × Value → H} {P : Program} {W : World} {base : Nat} {spare : Nat → Bool} {held : Bool} {t e : TypeId} {k : IntKind} {a : Option Addr} {len cap : Nat} {d : DataW H} {ps : List MemPlace} {ds : List (DataW H)}
    (hk : Rows.uptoSmall H ds = true) (hd : d ∈ ds) (hu : P.underlying t = some (.slice e)) (he : P.underlying e = some (.int k)) (hc : P.cellsOf e = 1) (h : DataW.Trod enc P W base spare held t (.slice a len cap) d ps) : len ≤ 1048576 := by
  obtain ⟨fuel, hf⟩ := h
  rcases open_ints hu he hc hf with ⟨hcs, _⟩ | ⟨x, l, c, zs, hcs, _, hl, _, hz, hx, _, _⟩
  · simp [Value.cells] at hcs
    obtain ⟨rfl, rfl, rfl⟩ := hcs
    omega
  · simp [Value.cells] at hcs
    obtain ⟨rfl, rfl, rfl⟩ := hcs
    obtain ⟨hx, _⟩ := Prod.mk.inj hx
    subst hx
    have h1 := bulks.part_le hd
    have h2 := bulks.slice_le (H := H) (lits k (zs.take len)) (lits k (zs.drop len))
    have h3 : Rows.uptoBulkAll ds ≤ 1048576 := of_decide_eq_true hk
    have h4 : (lits (H := H) k (zs.take len)).length = len := by
      simp only [lits, List.length_map, List.length_take, hz]
      split <;> omega
    omega
set_option maxRecDepth 100000 in
theorem lifted (os : Os) (started : os.Started) (H : Type) (enc : TypeId × Value → H) (F : Stop.Interp) :
    ReturnsInHanded {} Try.checked os 4 .any ((Rows.OpenSpec.upto Rows.quotTimesSpec).pre6 enc Try.prog Try.f4 Rows.quotTimesUptoRow.domain false) (((Rows.OpenSpec.upto Rows.quotTimesSpec).at F).post enc Try.prog Try.f4 false true false false) := by
  refine returnsInHanded_of_cond_sized (C := Try.checked) (s := Rows.OpenSpec.upto Rows.quotTimesSpec) (k := Rows.uptoSmall) rfl own started (by kernel_rfl) Try.func4
    (OpenSpec.witness (enc := enc) (C := Try.checked) (s := Rows.OpenSpec.upto Rows.quotTimesSpec) (k := Rows.uptoSmall) rfl false ⟨#[], #[.slice none 0 0, .slice none 0 0, .int .u64 0], []⟩ 8 (by kernel_rfl) (by kernel_rfl) (by kernel_rfl) (x := ([.nil, .nil, .lit (.int .u64 0)], [], [])) (by kernel_rfl) rfl (by kernel_rfl)) ?_
  intro W base args ds gs before hval0 hW hcnd hk0 hsz0 _
  have hsz : (DataW.weightsEach Try.prog (Try.f4.params.toList ++ Rows.quotTimesSpec.plain.varTypes Try.prog) (ds ++ gs)).all (· ≤ reachBytes) = true := hsz0
  have hval : ∀ (j : Nat) t v, Try.f4.params[j]? = some t → args[j]? = some v → Value.okWide Try.prog W .any base t v := hval0
  have hW' := hW
  obtain ⟨p, q, hA0, hV, rfl, hfz, hnd⟩ := hW
  have hA : DataW.TrodAll enc Try.prog W 0 (fun _ => true) true Try.f4.params.toList args.toList ds p := hA0
  rw [Try.params4] at hA hval hsz
  obtain ⟨v0, vs0, d0, ds0, p0, q0, hargs, rfl, rfl, h0, r0⟩ := trodAll_cons hA
  obtain ⟨v1, vs1, d1, ds1, p1, q1, rfl, rfl, rfl, h1, r1⟩ := trodAll_cons r0
  obtain ⟨v2, vs2, d2, ds2, p2, q2, rfl, rfl, rfl, h2, r2⟩ := trodAll_cons r1
  obtain ⟨rfl, rfl, rfl⟩ := trodAll_nil r2
  obtain rfl : args = #[v0, v1, v2] := by cases args; simp_all
  obtain ⟨rfl, rfl⟩ := trodVars_none hV
  have k0 := h0
  have lt0 : ∀ x ∈ p0, x.block < W.heap.size := by obtain ⟨m, hm⟩ := k0; exact DataW.trod_lt m _ _ _ hm
  have y0 : ∀ a len cap, v0 = .slice a len cap → len * 8 ≤ 140737488351232 := by
    rintro a len cap rfl
    exact sized_ints hsz (j := 0) (t := 22) rfl rfl Try.underlying22 Try.underlying33 (by kernel_rfl) (by kernel_rfl) h0
  have u0 : ∀ a len cap, v0 = .slice a len cap → len ≤ 1048576 := by
    rintro a len cap rfl
    exact upto_ints hk0 (by simp) Try.underlying22 Try.underlying33 (by kernel_rfl) h0
  obtain ⟨ax0, nx0, cx0, rfl⟩ := okWide_slice Try.underlying22 (hval 0 22 v0 rfl rfl)
  have y0 := y0 _ _ _ rfl
  have u0 := u0 _ _ _ rfl
  obtain ⟨zx0, wx0⟩ : ∃ zs, IsRow .u64 W ax0 nx0 cx0 zs := by
    obtain ⟨fuel, hf⟩ := h0
    obtain ⟨a, len, cap, zs, e, hr⟩ := row_of (c := .slice ax0 nx0 cx0) Try.underlying22 Try.underlying33 (by kernel_rfl) hf
    cases e
    exact ⟨zs, hr⟩
  obtain ⟨lx0, rfl, hrx0, hmx0, hwx0, hcx0⟩ := ReadsInt.ofRowC wx0
  have k1 := h1
  have lt1 : ∀ x ∈ p1, x.block < W.heap.size := by obtain ⟨m, hm⟩ := k1; exact DataW.trod_lt m _ _ _ hm
  have y1 : ∀ a len cap, v1 = .slice a len cap → len * 8 ≤ 140737488351232 := by
    rintro a len cap rfl
    exact sized_ints hsz (j := 1) (t := 22) rfl rfl Try.underlying22 Try.underlying33 (by kernel_rfl) (by kernel_rfl) h1
  have u1 : ∀ a len cap, v1 = .slice a len cap → len ≤ 1048576 := by
    rintro a len cap rfl
    exact upto_ints hk0 (by simp) Try.underlying22 Try.underlying33 (by kernel_rfl) h1
  obtain ⟨ax1, nx1, cx1, rfl⟩ := okWide_slice Try.underlying22 (hval 1 22 v1 rfl rfl)
  have y1 := y1 _ _ _ rfl
  have u1 := u1 _ _ _ rfl
  obtain ⟨zx1, wx1⟩ : ∃ zs, IsRow .u64 W ax1 nx1 cx1 zs := by
    obtain ⟨fuel, hf⟩ := h1
    obtain ⟨a, len, cap, zs, e, hr⟩ := row_of (c := .slice ax1 nx1 cx1) Try.underlying22 Try.underlying33 (by kernel_rfl) hf
    cases e
    exact ⟨zs, hr⟩
  obtain ⟨lx1, rfl, hrx1, hmx1, hwx1, hcx1⟩ := ReadsInt.ofRowC wx1
  have k2 := h2
  have lt2 : ∀ x ∈ p2, x.block < W.heap.size := by obtain ⟨m, hm⟩ := k2; exact DataW.trod_lt m _ _ _ hm
  obtain ⟨x2, rfl, rfl, rfl, wx2⟩ := open_int Try.underlying33 (hval 2 33 v2 rfl rfl) h2
  clear hA0 hval0 hsz0 hsz
  obtain ⟨k, hh⟩ := Pure.QuotTimesUpto lx0 lx1 x2 hmx0 hwx0 y0 u0 hmx1 hwx1 y1 u1 wx2
  refine (Pa.tallysticklaw06_QuotTimes.calls k _ _ lx0 _ _ lx1 x2 true W (Kd.C_of_reads (d := (0 : Int)) (h1 := fun _ => rfl) hrx0) hcx0 (Kd.C_of_reads (d := (0 : Int)) (h1 := fun _ => rfl) hrx1) hcx1 ⟨rfl⟩ hh).mono ?_
  rintro e W' ⟨rfl, hd⟩
  have bel : Below W.heap.size W W' := hd
  exact ⟨_, rfl, _, _, _, [], _, [], hW', trodAll_mk1 (shut_bool Try.underlying4 _), (trodAll_cons_mk (Below.trod laidOut (by kernel_rfl) (of_decide_eq_true (by kernel_rfl)) k0 bel lt0) (trodAll_cons_mk (Below.trod laidOut (by kernel_rfl) (of_decide_eq_true (by kernel_rfl)) k1 bel lt1) (trodAll_cons_mk (shut_int Try.underlying33 wx2) trodAll_mk0))), rfl, bel.frame _, fun h => by cases h⟩
theorem over : Rows.quotTimesUptoRow.holds Try.pinned (Rows.OpenSpec.upto Rows.quotTimesSpec) :=
  OpenClaim.holds_of_cond 4 Try.f4 rfl rfl rfl rfl rfl rfl rfl ⟨rfl, rfl, rfl, rfl, rfl⟩ rfl rfl rfl rfl rfl (by kernel_rfl) Try.func4 (by kernel_rfl)
    (of_decide_eq_true (by kernel_rfl)) (by unfold Func.isWrapper; first | (rw [if_pos (by decide +kernel)]; kernel_rfl) | (rw [if_neg (by decide +kernel)]; exact ⟨rfl, rfl⟩))
    (fun os started H enc _ F => lifted os started H enc F)
theorem proved : Rows.QuotTimesUptoSaid := over
end Go.Proofs.Ytofknlpbnpokeaa.quotTimesUpto
namespace Go.Proofs.Ytofknlpbnpokeaa
/-- The row, under a short name, for the claim. -/
theorem quotTimesUpto_holds : Rows.QuotTimesUptoSaid := quotTimesUpto.proved
end Go.Proofs.Ytofknlpbnpokeaa
