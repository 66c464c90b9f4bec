/- ProdAdds: for every input that can be read the law returns true, and its arguments read behind the call as before. Nothing more is asked of the input. -/
import Derived.Test.YtgoglfojjpibnaaRows
import Derived.Test.YtgoglfojjpibnaaPa10
import Derived.Test.YtgoglfojjpibnaaPureProdAdds
import Derived.WalkKit
import Derived.ProofKit
import Derived.OpenShut
import Derived.ShutString
import Derived.ChangeOld
import Derived.Below
import Derived.SizedLaws
import Derived.Test.YtgoglfojjpibnaaWSized
namespace Go.Proofs.Ytgoglfojjpibnaa.prodAdds
open Go.ChangeShapes Go.WideShapes Go.ChangeAt Go.RowKit Go.Proofs.YtgoglfojjpibnaaW.PrintWords
open Go.ChangeMaps (open_string shut_string)
set_option linter.unusedVariables false
set_option linter.unusedSimpArgs false
theorem own : ownKnob Try.prog.godebug = none := by kernel_rfl
theorem laidOut : laidOutB Try.prog = true := by kernel_rfl
def IsRow (k : IntKind) (w : World) (a : Option Addr) (len cap : Nat) (zs : List Int) : Prop :=
  (a = none ∧ len = 0 ∧ cap = 0 ∧ zs = []) ∨
  ∃ x, a = some x ∧ len ≤ cap ∧ cap ≤ maxLen ∧ zs.length = cap ∧ (∀ i, i < zs.length → w.cell? (x.add i) = some (.int k (zs.getD i 0))) ∧ ∀ n ∈ zs, (Lit.int k n).wf = true
theorem row_of {H : Type} {enc : TypeId × Value → H} {P : Program} {w : World} {base : Nat} {held : Bool} {t e : TypeId} {k : IntKind} {fuel : Nat} {c : Value} {x : DataW H × List MemPlace} (ht : P.underlying t = some (.slice e)) (he : P.underlying e = some (.int k)) (hc : P.cellsOf e = 1)
    (h : DataW.trod enc P w base (fun _ => true) held fuel t [c] = some x) : ∃ a len cap zs, c = .slice a len cap ∧ IsRow k w a len cap zs := by
  rcases open_ints ht he hc h with ⟨hcs, _⟩ | ⟨x, l, c', zs, hcs, _, hl, hm, hz, _, hcell, hwz⟩
  · simp at hcs; exact ⟨none, 0, 0, [], hcs, .inl ⟨rfl, rfl, rfl, rfl⟩⟩
  · simp at hcs; exact ⟨some x, l, c', zs, hcs, .inr ⟨x, rfl, hl, hm, by simpa using hz, hcell, hwz⟩⟩
set_option maxRecDepth 100000 in
theorem cells40 {H : Type} {enc : TypeId × Value → H} {w : World} {base : Nat} {held : Bool} {fuel : Nat} {l : List Value} {x : DataW H × List MemPlace} (hl : l.length = 5) (h : DataW.trod enc Try.prog w base (fun _ => true) held fuel 40 l = some x) :
    ∃ (ax_0 : Option Addr) (nx_0 cx_0 : Nat) (zx_0 : List Int) (ax_1 : Option Addr) (nx_1 cx_1 : Nat) (zx_1 : List Int) (x_2 : Int) (x_3 : Int) (x_4 : Int), l = [.slice ax_0 nx_0 cx_0, .slice ax_1 nx_1 cx_1, .int .u64 x_2, .int .i64 x_3, .int .i64 x_4] ∧ IsRow .u64 w ax_0 nx_0 cx_0 zx_0 ∧ IsRow .u64 w ax_1 nx_1 cx_1 zx_1 ∧ (Lit.int .u64 x_2).wf = true ∧ (Lit.int .i64 x_3).wf = true ∧ (Lit.int .i64 x_4).wf = true := by
  obtain ⟨xs, m, _, _, _, hlen, hg⟩ := DataW.trod_struct Try.underlying40 h
  match l, hl, xs, (show xs.length = 5 from hlen) with
  | [c0, c1, c2, c3, c4], _, [y0, y1, y2, y3, y4], _ =>
    have e0 : Try.prog.cellsOf 22 = 1 := by kernel_rfl
    have g0 : DataW.trod enc Try.prog w base (fun _ => true) held m 22 [c0] = some y0 := by simpa [e0] using hg 0 _ rfl
    obtain ⟨ax_0, nx_0, cx_0, zx_0, rfl, wx_0⟩ := row_of Try.underlying22 Try.underlying38 (by kernel_rfl) g0
    have e1 : Try.prog.cellsOf 22 = 1 := by kernel_rfl
    have g1 : DataW.trod enc Try.prog w base (fun _ => true) held m 22 [c1] = some y1 := by simpa [e1] using hg 1 _ rfl
    obtain ⟨ax_1, nx_1, cx_1, zx_1, rfl, wx_1⟩ := row_of Try.underlying22 Try.underlying38 (by kernel_rfl) g1
    have e2 : Try.prog.cellsOf 38 = 1 := by kernel_rfl
    have g2 : DataW.trod enc Try.prog w base (fun _ => true) held m 38 [c2] = some y2 := by simpa [e2] using hg 2 _ rfl
    obtain ⟨x_2, q2, _, wx_2⟩ := DataW.trod_int Try.underlying38 g2
    simp only [List.cons.injEq, and_true] at q2
    subst q2
    have e3 : Try.prog.cellsOf 3 = 1 := by kernel_rfl
    have g3 : DataW.trod enc Try.prog w base (fun _ => true) held m 3 [c3] = some y3 := by simpa [e3] using hg 3 _ rfl
    obtain ⟨x_3, q3, _, wx_3⟩ := DataW.trod_int Try.underlying3 g3
    simp only [List.cons.injEq, and_true] at q3
    subst q3
    have e4 : Try.prog.cellsOf 3 = 1 := by kernel_rfl
    have g4 : DataW.trod enc Try.prog w base (fun _ => true) held m 3 [c4] = some y4 := by simpa [e4] using hg 4 _ rfl
    obtain ⟨x_4, q4, _, wx_4⟩ := DataW.trod_int Try.underlying3 g4
    simp only [List.cons.injEq, and_true] at q4
    subst q4
    exact ⟨ax_0, nx_0, cx_0, zx_0, ax_1, nx_1, cx_1, zx_1, x_2, x_3, x_4, rfl, wx_0, wx_1, wx_2, wx_3, wx_4⟩
theorem opened40 {H : Type} {enc : TypeId × Value → H} {w : World} {r : Reach} {b0 base : Nat} {held : Bool} {v : Value} {d : DataW H} {p : List MemPlace} (hv : Value.okWide Try.prog w r b0 40 v) (h : DataW.Trod enc Try.prog w base (fun _ => true) held 40 v d p) :
    ∃ (ax_0 : Option Addr) (nx_0 cx_0 : Nat) (zx_0 : List Int) (ax_1 : Option Addr) (nx_1 cx_1 : Nat) (zx_1 : List Int) (x_2 : Int) (x_3 : Int) (x_4 : Int), v = .agg #[.slice ax_0 nx_0 cx_0, .slice ax_1 nx_1 cx_1, .int .u64 x_2, .int .i64 x_3, .int .i64 x_4] ∧ IsRow .u64 w ax_0 nx_0 cx_0 zx_0 ∧ IsRow .u64 w ax_1 nx_1 cx_1 zx_1 ∧ (Lit.int .u64 x_2).wf = true ∧ (Lit.int .i64 x_3).wf = true ∧ (Lit.int .i64 x_4).wf = true := by
  obtain ⟨cs, rfl, hz⟩ := okWide_struct Try.underlying40 hv
  obtain ⟨l⟩ := cs
  obtain ⟨fuel, hf⟩ := h
  have e : Try.prog.cellsOf 40 = 5 := by kernel_rfl
  rw [e] at hz
  obtain ⟨ax_0, nx_0, cx_0, zx_0, ax_1, nx_1, cx_1, zx_1, x_2, x_3, x_4, q, wx_0, wx_1, wx_2, wx_3, wx_4⟩ := cells40 (l := l) hz hf
  subst q
  exact ⟨ax_0, nx_0, cx_0, zx_0, ax_1, nx_1, cx_1, zx_1, x_2, x_3, x_4, rfl, wx_0, wx_1, wx_2, wx_3, wx_4⟩
set_option maxRecDepth 100000 in
theorem lifted (os : Os) (started : os.Started) (H : Type) (enc : TypeId × Value → H) :
    ReturnsInHanded {} Try.checked os 6 .any (Rows.prodAddsSpec.pre6 enc Try.prog Try.f6 Rows.prodAddsRow.domain false) (Rows.prodAddsSpec.post enc Try.prog Try.f6 false true false false) := by
  refine returnsInHanded_of_change_sized (C := Try.checked) own started (by kernel_rfl) Try.func6
    (ChangeSpec.witness6 (enc := enc) (C := Try.checked) false ⟨#[], #[.agg #[.slice none 0 0, .slice none 0 0, .int .u64 0, .int .i64 0, .int .i64 0]], []⟩ 8 (by kernel_rfl) (by kernel_rfl) (by kernel_rfl) (by kernel_rfl)) ?_
  intro W base args ds gs before hval0 hW hcnd hsz0 _
  have hsz : (DataW.weightsEach Try.prog (Try.f6.params.toList ++ Rows.prodAddsSpec.plain.varTypes Try.prog) (ds ++ gs)).all (· ≤ reachBytes) = true := hsz0
  have hval : ∀ (j : Nat) t v, Try.f6.params[j]? = some t → args[j]? = some v → Value.okWide Try.prog W .any base t v := hval0
  have hW' := hW
  obtain ⟨p, q, hA0, hV, rfl, hfz, hnd⟩ := hW
  have hA : DataW.TrodAll enc Try.prog W 0 (fun _ => true) true Try.f6.params.toList args.toList ds p := hA0
  rw [Try.params6] at hA hval hsz
  obtain ⟨v0, vs0, d0, ds0, p0, q0, hargs, rfl, rfl, h0, r0⟩ := trodAll_cons hA
  obtain ⟨rfl, rfl, rfl⟩ := trodAll_nil r0
  obtain rfl : args = #[v0] := by cases args; simp_all
  obtain ⟨rfl, rfl⟩ := trodVars_none hV
  have k0 := h0
  have lt0 : ∀ x ∈ p0, x.block < W.heap.size := by obtain ⟨m, hm⟩ := k0; exact DataW.trod_lt m _ _ _ hm
  obtain ⟨ax0_0, nx0_0, cx0_0, zx0_0, ax0_1, nx0_1, cx0_1, zx0_1, x0_2, x0_3, x0_4, rfl, wx0_0, wx0_1, wx0_2, wx0_3, wx0_4⟩ := opened40 (hval 0 40 v0 rfl rfl) h0
  obtain ⟨lx0_0, rfl, hrx0_0, hmx0_0, hwx0_0, hcx0_0⟩ := ReadsInt.ofRowC wx0_0
  obtain ⟨lx0_1, rfl, hrx0_1, hmx0_1, hwx0_1, hcx0_1⟩ := ReadsInt.ofRowC wx0_1
  clear hA0 hval0 hsz0 hsz
  obtain ⟨k, hh⟩ := Pure.ProdAdds lx0_0 lx0_1 x0_2 x0_3 x0_4 hmx0_0 hwx0_0 hmx0_1 hwx0_1 wx0_2 wx0_3 wx0_4
  refine (Pa.tallysticklaw05_ProdAdds.calls k _ _ lx0_0 _ _ lx0_1 x0_2 x0_3 x0_4 true W (Kd.C_of_reads (d := (0 : Int)) (h1 := fun _ => rfl) hrx0_0) hcx0_0 (Kd.C_of_reads (d := (0 : Int)) (h1 := fun _ => rfl) hrx0_1) hcx0_1 ⟨rfl⟩ hh).mono ?_
  rintro e W' ⟨rfl, hd⟩
  have bel : Below W.heap.size W W' := hd
  exact ⟨_, rfl, _, _, _, [], _, [], hW', trodAll_mk1 (shut_bool Try.underlying4 _), (trodAll_cons_mk (Below.trod laidOut (by kernel_rfl) (of_decide_eq_true (by kernel_rfl)) k0 bel lt0) trodAll_mk0), rfl, bel.frame _, fun h => by cases h⟩
theorem over : Rows.prodAddsRow.holds Try.pinned (OpenSpec.ofChange Rows.prodAddsSpec) :=
  OpenClaim.holds_of_wide 6 Try.f6 rfl rfl rfl rfl rfl rfl rfl ⟨rfl, rfl, rfl, rfl, rfl⟩ rfl rfl rfl rfl rfl (by kernel_rfl) Try.func6 (by kernel_rfl)
    (of_decide_eq_true (by kernel_rfl)) (by unfold Func.isWrapper; first | (rw [if_pos (by decide +kernel)]; kernel_rfl) | (rw [if_neg (by decide +kernel)]; exact ⟨rfl, rfl⟩))
    (fun os started H enc _ => lifted os started H enc)
theorem proved : Rows.ProdAddsSaid := over
end Go.Proofs.Ytgoglfojjpibnaa.prodAdds
namespace Go.Proofs.Ytgoglfojjpibnaa
/-- The row, under a short name, for the claim. -/
theorem prodAdds_holds : Rows.ProdAddsSaid := prodAdds.proved
end Go.Proofs.Ytgoglfojjpibnaa
