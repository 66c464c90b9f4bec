/- MontReckons: for every input that can be read the law returns true, and its arguments read behind the call as before. Nothing more is asked of the input. -/
import Derived.Test.YtjejkkjoplphfaaRows
import Derived.Test.YtjejkkjoplphfaaPa8
import Derived.Test.YtjejkkjoplphfaaPureMontReckons
import Derived.WalkKit
import Derived.ProofKit
import Derived.OpenShut
import Derived.ShutString
import Derived.ChangeOld
import Derived.Below
import Derived.SizedLaws
import Derived.Test.YtjejkkjoplphfaaWSized
namespace Go.Proofs.Ytjejkkjoplphfaa.montReckons
open Go.ChangeShapes Go.WideShapes Go.ChangeAt Go.RowKit Go.Proofs.YtjejkkjoplphfaaW.PrintWords
open Go.ChangeMaps (open_string shut_string)
set_option linter.unusedVariables false
set_option linter.unusedSimpArgs false
theorem own : ownKnob Try.prog.godebug = none := by kernel_rfl
theorem laidOut : laidOutB Try.prog = true := by kernel_rfl
def IsRow (k : IntKind) (w : World) (a : Option Addr) (len cap : Nat) (zs : List Int) : Prop :=
  (a = none ∧ len = 0 ∧ cap = 0 ∧ zs = []) ∨
  ∃ x, a = some x ∧ len ≤ cap ∧ cap ≤ maxLen ∧ zs.length = cap ∧ (∀ i, i < zs.length → w.cell? (x.add i) = some (.int k (zs.getD i 0))) ∧ ∀ n ∈ zs, (Lit.int k n).wf = true
theorem row_of {H : Type} {enc : TypeId × Value → H} {P : Program} {w : World} {base : Nat} {held : Bool} {t e : TypeId} {k : IntKind} {fuel : Nat} {c : Value} {x : DataW H × List MemPlace} (ht : P.underlying t = some (.slice e)) (he : P.underlying e = some (.int k)) (hc : P.cellsOf e = 1)
    (h : DataW.trod enc P w base (fun _ => true) held fuel t [c] = some x) : ∃ a len cap zs, c = .slice a len cap ∧ IsRow k w a len cap zs := by
  rcases open_ints ht he hc h with ⟨hcs, _⟩ | ⟨x, l, c', zs, hcs, _, hl, hm, hz, _, hcell, hwz⟩
  · simp at hcs; exact ⟨none, 0, 0, [], hcs, .inl ⟨rfl, rfl, rfl, rfl⟩⟩
  · simp at hcs; exact ⟨some x, l, c', zs, hcs, .inr ⟨x, rfl, hl, hm, by simpa using hz, hcell, hwz⟩⟩
set_option maxRecDepth 100000 in
theorem cells43 {H : Type} {enc : TypeId × Value → H} {w : World} {base : Nat} {held : Bool} {fuel : Nat} {l : List Value} {x : DataW H × List MemPlace} (hl : l.length = 5) (h : DataW.trod enc Try.prog w base (fun _ => true) held fuel 43 l = some x) :
    ∃ (x_0 : Int) (x_1 : Int) (x_2 : Int) (x_3 : Int) (x_4 : Int), l = [.int .u32 x_0, .int .u64 x_1, .int .u32 x_2, .int .u64 x_3, .int .u64 x_4] ∧ (Lit.int .u32 x_0).wf = true ∧ (Lit.int .u64 x_1).wf = true ∧ (Lit.int .u32 x_2).wf = true ∧ (Lit.int .u64 x_3).wf = true ∧ (Lit.int .u64 x_4).wf = true := by
  obtain ⟨xs, m, _, _, _, hlen, hg⟩ := DataW.trod_struct Try.underlying43 h
  match l, hl, xs, (show xs.length = 5 from hlen) with
  | [c0, c1, c2, c3, c4], _, [y0, y1, y2, y3, y4], _ =>
    have e0 : Try.prog.cellsOf 22 = 1 := by kernel_rfl
    have g0 : DataW.trod enc Try.prog w base (fun _ => true) held m 22 [c0] = some y0 := by simpa [e0] using hg 0 _ rfl
    obtain ⟨x_0, q0, _, wx_0⟩ := DataW.trod_int Try.underlying22 g0
    simp only [List.cons.injEq, and_true] at q0
    subst q0
    have e1 : Try.prog.cellsOf 32 = 1 := by kernel_rfl
    have g1 : DataW.trod enc Try.prog w base (fun _ => true) held m 32 [c1] = some y1 := by simpa [e1] using hg 1 _ rfl
    obtain ⟨x_1, q1, _, wx_1⟩ := DataW.trod_int Try.underlying32 g1
    simp only [List.cons.injEq, and_true] at q1
    subst q1
    have e2 : Try.prog.cellsOf 22 = 1 := by kernel_rfl
    have g2 : DataW.trod enc Try.prog w base (fun _ => true) held m 22 [c2] = some y2 := by simpa [e2] using hg 2 _ rfl
    obtain ⟨x_2, q2, _, wx_2⟩ := DataW.trod_int Try.underlying22 g2
    simp only [List.cons.injEq, and_true] at q2
    subst q2
    have e3 : Try.prog.cellsOf 32 = 1 := by kernel_rfl
    have g3 : DataW.trod enc Try.prog w base (fun _ => true) held m 32 [c3] = some y3 := by simpa [e3] using hg 3 _ rfl
    obtain ⟨x_3, q3, _, wx_3⟩ := DataW.trod_int Try.underlying32 g3
    simp only [List.cons.injEq, and_true] at q3
    subst q3
    have e4 : Try.prog.cellsOf 32 = 1 := by kernel_rfl
    have g4 : DataW.trod enc Try.prog w base (fun _ => true) held m 32 [c4] = some y4 := by simpa [e4] using hg 4 _ rfl
    obtain ⟨x_4, q4, _, wx_4⟩ := DataW.trod_int Try.underlying32 g4
    simp only [List.cons.injEq, and_true] at q4
    subst q4
    exact ⟨x_0, x_1, x_2, x_3, x_4, rfl, wx_0, wx_1, wx_2, wx_3, wx_4⟩
theorem opened43 {H : Type} {enc : TypeId × Value → H} {w : World} {r : Reach} {b0 base : Nat} {held : Bool} {v : Value} {d : DataW H} {p : List MemPlace} (hv : Value.okWide Try.prog w r b0 43 v) (h : DataW.Trod enc Try.prog w base (fun _ => true) held 43 v d p) :
    ∃ (x_0 : Int) (x_1 : Int) (x_2 : Int) (x_3 : Int) (x_4 : Int), v = .agg #[.int .u32 x_0, .int .u64 x_1, .int .u32 x_2, .int .u64 x_3, .int .u64 x_4] ∧ (Lit.int .u32 x_0).wf = true ∧ (Lit.int .u64 x_1).wf = true ∧ (Lit.int .u32 x_2).wf = true ∧ (Lit.int .u64 x_3).wf = true ∧ (Lit.int .u64 x_4).wf = true := by
  obtain ⟨cs, rfl, hz⟩ := okWide_struct Try.underlying43 hv
  obtain ⟨l⟩ := cs
  obtain ⟨fuel, hf⟩ := h
  have e : Try.prog.cellsOf 43 = 5 := by kernel_rfl
  rw [e] at hz
  obtain ⟨x_0, x_1, x_2, x_3, x_4, q, wx_0, wx_1, wx_2, wx_3, wx_4⟩ := cells43 (l := l) hz hf
  subst q
  exact ⟨x_0, x_1, x_2, x_3, x_4, rfl, wx_0, wx_1, wx_2, wx_3, wx_4⟩
set_option maxRecDepth 100000 in
theorem lifted (os : Os) (started : os.Started) (H : Type) (enc : TypeId × Value → H) :
    ReturnsInHanded {} Try.checked os 8 .any (Rows.montReckonsSpec.pre6 enc Try.prog Try.f8 Rows.montReckonsRow.domain false) (Rows.montReckonsSpec.post enc Try.prog Try.f8 false true false false) := by
  refine returnsInHanded_of_change_sized (C := Try.checked) own started (by kernel_rfl) Try.func8
    (ChangeSpec.witness6 (enc := enc) (C := Try.checked) false ⟨#[], #[.agg #[.int .u32 0, .int .u64 0, .int .u32 0, .int .u64 0, .int .u64 0]], []⟩ 8 (by kernel_rfl) (by kernel_rfl) (by kernel_rfl) (by kernel_rfl)) ?_
  intro W base args ds gs before hval0 hW hcnd hsz0 _
  have hsz : (DataW.weightsEach Try.prog (Try.f8.params.toList ++ Rows.montReckonsSpec.plain.varTypes Try.prog) (ds ++ gs)).all (· ≤ reachBytes) = true := hsz0
  have hval : ∀ (j : Nat) t v, Try.f8.params[j]? = some t → args[j]? = some v → Value.okWide Try.prog W .any base t v := hval0
  have hW' := hW
  obtain ⟨p, q, hA0, hV, rfl, hfz, hnd⟩ := hW
  have hA : DataW.TrodAll enc Try.prog W 0 (fun _ => true) true Try.f8.params.toList args.toList ds p := hA0
  rw [Try.params8] at hA hval hsz
  obtain ⟨v0, vs0, d0, ds0, p0, q0, hargs, rfl, rfl, h0, r0⟩ := trodAll_cons hA
  obtain ⟨rfl, rfl, rfl⟩ := trodAll_nil r0
  obtain rfl : args = #[v0] := by cases args; simp_all
  obtain ⟨rfl, rfl⟩ := trodVars_none hV
  have k0 := h0
  have lt0 : ∀ x ∈ p0, x.block < W.heap.size := by obtain ⟨m, hm⟩ := k0; exact DataW.trod_lt m _ _ _ hm
  obtain ⟨x0_0, x0_1, x0_2, x0_3, x0_4, rfl, wx0_0, wx0_1, wx0_2, wx0_3, wx0_4⟩ := opened43 (hval 0 43 v0 rfl rfl) h0
  clear hA0 hval0 hsz0 hsz
  obtain ⟨k, hh⟩ := Pure.MontReckons x0_0 x0_1 x0_2 x0_3 x0_4 wx0_0 wx0_1 wx0_2 wx0_3 wx0_4
  refine (Pa.tallysticklaw03_MontReckons.calls k x0_0 x0_1 x0_2 x0_3 x0_4 true W  ⟨rfl⟩ hh).mono ?_
  rintro e W' ⟨rfl, hd⟩
  have bel : Below W.heap.size W W' := hd
  exact ⟨_, rfl, _, _, _, [], _, [], hW', trodAll_mk1 (shut_bool Try.underlying4 _), (trodAll_cons_mk (Below.trod laidOut (by kernel_rfl) (of_decide_eq_true (by kernel_rfl)) k0 bel lt0) trodAll_mk0), rfl, bel.frame _, fun h => by cases h⟩
theorem over : Rows.montReckonsRow.holds Try.pinned (OpenSpec.ofChange Rows.montReckonsSpec) :=
  OpenClaim.holds_of_wide 8 Try.f8 rfl rfl rfl rfl rfl rfl rfl ⟨rfl, rfl, rfl, rfl, rfl⟩ rfl rfl rfl rfl rfl (by kernel_rfl) Try.func8 (by kernel_rfl)
    (of_decide_eq_true (by kernel_rfl)) (by unfold Func.isWrapper; first | (rw [if_pos (by decide +kernel)]; kernel_rfl) | (rw [if_neg (by decide +kernel)]; exact ⟨rfl, rfl⟩))
    (fun os started H enc _ => lifted os started H enc)
theorem proved : Rows.MontReckonsSaid := over
end Go.Proofs.Ytjejkkjoplphfaa.montReckons
namespace Go.Proofs.Ytjejkkjoplphfaa
/-- The row, under a short name, for the claim. -/
theorem montReckons_holds : Rows.MontReckonsSaid := montReckons.proved
end Go.Proofs.Ytjejkkjoplphfaa
