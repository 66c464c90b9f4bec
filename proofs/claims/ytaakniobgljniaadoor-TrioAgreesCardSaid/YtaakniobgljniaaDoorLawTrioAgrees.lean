/- TrioAgrees: for every input that can be read the law returns true, and its arguments read behind the call as before. Nothing more is asked of the input. -/
import Derived.Test.YtaakniobgljniaaDoorRows
import Derived.Test.YtaakniobgljniaaDoorHTrioM
import Derived.Test.YtaakniobgljniaaDoorCards
import Derived.Test.YtaakniobgljniaaDoorTie
import Derived.LaidMore
import Derived.LaidHandle
import Derived.LaidLaws
import Derived.Stop.Joined
import Derived.SevenTiedAt
import Derived.Test.YtaakniobgljniaaDoorPb1
import Derived.Test.YtaakniobgljniaaDoorPureTrioAgrees
import Derived.WalkKit
import Derived.ProofKit
import Derived.OpenShut
import Derived.ShutString
import Derived.ChangeOld
import Derived.Below
import Derived.SizedLaws
import Derived.Test.YtaakniobgljniaaDoorWSized
namespace Go.Proofs.YtaakniobgljniaaDoor.trioAgrees
open Go.ChangeShapes Go.WideShapes Go.ChangeAt Go.RowKit Go.Proofs.YtaakniobgljniaaDoorW.PrintWords
open Go.ChangeMaps (open_string shut_string)
set_option linter.unusedVariables false
set_option linter.unusedSimpArgs false
theorem own : ownKnob Tryd.prog.godebug = none := by kernel_rfl
theorem laidOut : laidOutB Tryd.prog = true := by kernel_rfl
def IsRow (k : IntKind) (w : World) (a : Option Addr) (len cap : Nat) (zs : List Int) : Prop :=
  (a = none ∧ len = 0 ∧ cap = 0 ∧ zs = []) ∨
  ∃ x, a = some x ∧ len ≤ cap ∧ cap ≤ maxLen ∧ zs.length = cap ∧ (∀ i, i < zs.length → w.cell? (x.add i) = some (.int k (zs.getD i 0))) ∧ ∀ n ∈ zs, (Lit.int k n).wf = true
theorem row_of {H : Type} {enc : TypeId × Value → H} {P : Program} {w : World} {base : Nat} {held : Bool} {t e : TypeId} {k : IntKind} {fuel : Nat} {c : Value} {x : DataW H × List MemPlace} (ht : P.underlying t = some (.slice e)) (he : P.underlying e = some (.int k)) (hc : P.cellsOf e = 1)
    (h : DataW.trod enc P w base (fun _ => true) held fuel t [c] = some x) : ∃ a len cap zs, c = .slice a len cap ∧ IsRow k w a len cap zs := by
  rcases open_ints ht he hc h with ⟨hcs, _⟩ | ⟨x, l, c', zs, hcs, _, hl, hm, hz, _, hcell, hwz⟩
  · simp at hcs; exact ⟨none, 0, 0, [], hcs, .inl ⟨rfl, rfl, rfl, rfl⟩⟩
  · simp at hcs; exact ⟨some x, l, c', zs, hcs, .inr ⟨x, rfl, hl, hm, by simpa using hz, hcell, hwz⟩⟩
theorem door_met (os : Os) (args : Array Value) : laidMetH Tryd.prog Rows.trioAgreesRow.laid ((World.doorLaid Tryd.prog 400 os).forCall (fun _ _ => 0) ⟨#[], args, []⟩).memory :=
  laidMetH_of_parts3 (fuel := 8) (laidMet_of_run' 8 (by kernel_rfl) (by kernel_rfl)) (by kernel_rfl) (by kernel_rfl)
set_option maxRecDepth 100000 in
theorem lifted (os : Os) (started : os.Started) (H : Type) (enc : TypeId × Value → H) :
    ReturnsInHanded {} Tryd.checked os 9 .any (fun w args => (Rows.trioAgreesSpec.pre enc Tryd.prog Tryd.f9 [] false w args ∧ laidMetH Tryd.prog Rows.trioAgreesRow.laid w) ∧ sizedMet enc Tryd.prog Tryd.f9 (OpenSpec.ofChange Rows.trioAgreesSpec) false w args) (Rows.trioAgreesSpec.post enc Tryd.prog Tryd.f9 false true false false) := by
  refine returnsInHanded_of_change_and (C := Tryd.checked) (X := fun w _ => laidMetH Tryd.prog Rows.trioAgreesRow.laid w) (fun _ _ _ hh h => h.of_heap hh) own started (by kernel_rfl) Tryd.func9
    (ChangeSpec.witness_shaped (enc := enc) (C := Tryd.checked) (os := os) (X := fun w _ => laidMetH Tryd.prog Rows.trioAgreesRow.laid w) false (World.doorLaid Tryd.prog 400 os) #[.slice none 0 0, .slice none 0 0, .int .i64 0] 8 rfl (World.shaped_of_RefB (by kernel_rfl) (by kernel_rfl)) (by kernel_rfl) (by kernel_rfl) (by kernel_rfl) (door_met os _)) ?_
  intro W base args ds gs before hval0 hW hcnd hsz0 hL _
  have hsz : (DataW.weightsEach Tryd.prog (Tryd.f9.params.toList ++ Rows.trioAgreesSpec.plain.varTypes Tryd.prog) (ds ++ gs)).all (· ≤ reachBytes) = true := hsz0
  have hval : ∀ (j : Nat) t v, Tryd.f9.params[j]? = some t → args[j]? = some v → Value.okWide Tryd.prog W .any base t v := hval0
  have hW' := hW
  obtain ⟨p, q, hA0, hV, rfl, hfz, hnd⟩ := hW
  have hA : DataW.TrodAll enc Tryd.prog W 0 (fun _ => true) true Tryd.f9.params.toList args.toList ds p := hA0
  rw [Tryd.params9] at hA hval hsz
  obtain ⟨v0, vs0, d0, ds0, p0, q0, hargs, rfl, rfl, h0, r0⟩ := trodAll_cons hA
  obtain ⟨v1, vs1, d1, ds1, p1, q1, rfl, rfl, rfl, h1, r1⟩ := trodAll_cons r0
  obtain ⟨v2, vs2, d2, ds2, p2, q2, rfl, rfl, rfl, h2, r2⟩ := trodAll_cons r1
  obtain ⟨rfl, rfl, rfl⟩ := trodAll_nil r2
  obtain rfl : args = #[v0, v1, v2] := by cases args; simp_all
  obtain ⟨rfl, rfl⟩ := trodVars_none hV
  have k0 := h0
  have lt0 : ∀ x ∈ p0, x.block < W.heap.size := by obtain ⟨m, hm⟩ := k0; exact DataW.trod_lt m _ _ _ hm
  have y0 : ∀ a len cap, v0 = .slice a len cap → len * 8 ≤ 140737488351232 := by
    rintro a len cap rfl
    exact sized_ints hsz (j := 0) (t := 22) rfl rfl Tryd.underlying22 Tryd.underlying39 (by kernel_rfl) (by kernel_rfl) h0
  obtain ⟨ax0, nx0, cx0, rfl⟩ := okWide_slice Tryd.underlying22 (hval 0 22 v0 rfl rfl)
  have y0 := y0 _ _ _ rfl
  obtain ⟨zx0, wx0⟩ : ∃ zs, IsRow .u64 W ax0 nx0 cx0 zs := by
    obtain ⟨fuel, hf⟩ := h0
    obtain ⟨a, len, cap, zs, e, hr⟩ := row_of (c := .slice ax0 nx0 cx0) Tryd.underlying22 Tryd.underlying39 (by kernel_rfl) hf
    cases e
    exact ⟨zs, hr⟩
  obtain ⟨lx0, rfl, hrx0, hmx0, hwx0, hcx0⟩ := ReadsInt.ofRowC wx0
  have k1 := h1
  have lt1 : ∀ x ∈ p1, x.block < W.heap.size := by obtain ⟨m, hm⟩ := k1; exact DataW.trod_lt m _ _ _ hm
  have y1 : ∀ a len cap, v1 = .slice a len cap → len * 8 ≤ 140737488351232 := by
    rintro a len cap rfl
    exact sized_ints hsz (j := 1) (t := 22) rfl rfl Tryd.underlying22 Tryd.underlying39 (by kernel_rfl) (by kernel_rfl) h1
  obtain ⟨ax1, nx1, cx1, rfl⟩ := okWide_slice Tryd.underlying22 (hval 1 22 v1 rfl rfl)
  have y1 := y1 _ _ _ rfl
  obtain ⟨zx1, wx1⟩ : ∃ zs, IsRow .u64 W ax1 nx1 cx1 zs := by
    obtain ⟨fuel, hf⟩ := h1
    obtain ⟨a, len, cap, zs, e, hr⟩ := row_of (c := .slice ax1 nx1 cx1) Tryd.underlying22 Tryd.underlying39 (by kernel_rfl) hf
    cases e
    exact ⟨zs, hr⟩
  obtain ⟨lx1, rfl, hrx1, hmx1, hwx1, hcx1⟩ := ReadsInt.ofRowC wx1
  have k2 := h2
  have lt2 : ∀ x ∈ p2, x.block < W.heap.size := by obtain ⟨m, hm⟩ := k2; exact DataW.trod_lt m _ _ _ hm
  obtain ⟨x2, rfl, rfl, rfl, wx2⟩ := open_int Tryd.underlying3 (hval 2 3 v2 rfl rfl) h2
  clear hA0 hval0 hsz0 hsz
  obtain ⟨k, hh⟩ := Pure.TrioAgrees lx0 lx1 x2 hmx0 hwx0 y0 hmx1 hwx1 y1 wx2
  refine (Pb.tallysticklaw09_TrioAgrees.calls k _ _ lx0 _ _ lx1 x2 true W (Hand.primes_of_laid hL) (Kd.C_of_reads (d := (0 : Int)) (h1 := fun _ => rfl) hrx0) hcx0 (Kd.C_of_reads (d := (0 : Int)) (h1 := fun _ => rfl) hrx1) hcx1 ⟨rfl⟩ hh).mono ?_
  rintro e W' ⟨rfl, hd⟩
  have bel : Below W.heap.size W W' := hd
  exact ⟨_, rfl, _, _, _, [], _, [], hW', trodAll_mk1 (shut_bool Tryd.underlying4 _), (trodAll_cons_mk (Below.trod laidOut (by kernel_rfl) (of_decide_eq_true (by kernel_rfl)) k0 bel lt0) (trodAll_cons_mk (Below.trod laidOut (by kernel_rfl) (of_decide_eq_true (by kernel_rfl)) k1 bel lt1) (trodAll_cons_mk (shut_int Tryd.underlying3 wx2) trodAll_mk0))), rfl, bel.frame _, fun h => by cases h⟩
theorem over : Rows.trioAgreesRow.holds Tryd.pinned (OpenSpec.ofChange Rows.trioAgreesSpec) :=
  OpenClaim.holds_of_wide 9 Tryd.f9 rfl rfl rfl rfl rfl rfl rfl ⟨rfl, rfl, rfl, rfl, rfl⟩ rfl rfl rfl rfl rfl (by kernel_rfl) Tryd.func9 (by kernel_rfl)
    (of_decide_eq_true (by kernel_rfl)) (by unfold Func.isWrapper; first | (rw [if_pos (by decide +kernel)]; kernel_rfl) | (rw [if_neg (by decide +kernel)]; exact ⟨rfl, rfl⟩))
    (fun os started H enc _ => lifted os started H enc)
theorem card : Rows.TrioAgreesCardSaid :=
  Claim7.holds_tied_plain_at .later [] [.widerDeep] true (true, "d2ead382e670a3328ae28a5cb1a335ae3b4710496004812971abebd93ed07f40") false
    over (fun _ h => by cases h) (by kernel_rfl) (fun _ h => by cases h) trioAgrees_row_tie rfl ⟨rfl, rfl⟩ (by kernel_rfl) rfl
    (fun f fn hf hfn => by
      obtain rfl : f = 9 := Option.some.inj ((show Tryd.prog.funcNamed Rows.trioAgreesRow.func = some 9 by kernel_rfl).symm.trans hf) |>.symm
      obtain rfl : fn = Tryd.f9 := (Option.some.inj (Tryd.func9.symm.trans hfn)).symm
      exact ⟨by kernel_rfl, fun j t ht => by
        rw [Tryd.params9] at ht
        have hm : t ∈ [22, 22, 3] := by simpa using Array.mem_of_getElem? ht
        have hall : ([22, 22, 3].all fun u => !Tryd.prog.wantsStandIn u) = true := by kernel_rfl
        exact (show Tryd.prog.wantsStandIn t = false by simpa using List.all_eq_true.1 hall t hm)⟩)
    (by kernel_rfl)
end Go.Proofs.YtaakniobgljniaaDoor.trioAgrees
namespace Go.Proofs.YtaakniobgljniaaDoor
/-- The tied card, under a short name, for the claim. -/
theorem trioAgrees_holds : Rows.TrioAgreesCardSaid := trioAgrees.card
end Go.Proofs.YtaakniobgljniaaDoor
