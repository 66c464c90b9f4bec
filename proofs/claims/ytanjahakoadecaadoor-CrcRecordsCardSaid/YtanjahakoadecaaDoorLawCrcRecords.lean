/- CrcRecords: for every input that can be read the law returns true, and its arguments read behind the call as before. Nothing more is asked of the input. -/
import Derived.Test.YtanjahakoadecaaDoorRows
import Derived.Test.YtanjahakoadecaaDoorHCrcX
import Derived.Test.YtanjahakoadecaaDoorCards
import Derived.Test.YtanjahakoadecaaDoorTie
import Derived.LaidMore
import Derived.LaidHandle
import Derived.LaidLaws
import Derived.Stop.Joined
import Derived.SevenTiedAt
import Derived.Test.YtanjahakoadecaaDoorPd1
import Derived.Test.YtanjahakoadecaaDoorPureCrcRecords
import Derived.WalkKit
import Derived.ProofKit
import Derived.OpenShut
import Derived.ShutString
import Derived.ChangeOld
import Derived.Below
import Derived.SizedLaws
import Derived.Test.YtanjahakoadecaaDoorWSized
namespace Go.Proofs.YtanjahakoadecaaDoor.crcRecords
open Go.ChangeShapes Go.WideShapes Go.ChangeAt Go.RowKit Go.Proofs.YtanjahakoadecaaDoorW.PrintWords
open Go.ChangeMaps (open_string shut_string)
set_option linter.unusedVariables false
set_option linter.unusedSimpArgs false
theorem own : ownKnob Tryd.prog.godebug = none := by kernel_rfl
theorem laidOut : laidOutB Tryd.prog = true := by kernel_rfl
def IsRow (k : IntKind) (w : World) (a : Option Addr) (len cap : Nat) (zs : List Int) : Prop :=
  (a = none ∧ len = 0 ∧ cap = 0 ∧ zs = []) ∨
  ∃ x, a = some x ∧ len ≤ cap ∧ cap ≤ maxLen ∧ zs.length = cap ∧ (∀ i, i < zs.length → w.cell? (x.add i) = some (.int k (zs.getD i 0))) ∧ ∀ n ∈ zs, (Lit.int k n).wf = true
theorem row_of {H : Type} {enc : TypeId × Value → H} {P : Program} {w : World} {base : Nat} {held : Bool} {t e : TypeId} {k : IntKind} {fuel : Nat} {c : Value} {x : DataW H × List MemPlace} (ht : P.underlying t = some (.slice e)) (he : P.underlying e = some (.int k)) (hc : P.cellsOf e = 1)
    (h : DataW.trod enc P w base (fun _ => true) held fuel t [c] = some x) : ∃ a len cap zs, c = .slice a len cap ∧ IsRow k w a len cap zs := by
  rcases open_ints ht he hc h with ⟨hcs, _⟩ | ⟨x, l, c', zs, hcs, _, hl, hm, hz, _, hcell, hwz⟩
  · simp at hcs; exact ⟨none, 0, 0, [], hcs, .inl ⟨rfl, rfl, rfl, rfl⟩⟩
  · simp at hcs; exact ⟨some x, l, c', zs, hcs, .inr ⟨x, rfl, hl, hm, by simpa using hz, hcell, hwz⟩⟩
set_option maxRecDepth 100000 in
theorem cells23 {H : Type} {enc : TypeId × Value → H} {w : World} {base : Nat} {held : Bool} {fuel : Nat} {l : List Value} {x : DataW H × List MemPlace} (hl : l.length = 3) (h : DataW.trod enc Tryd.prog w base (fun _ => true) held fuel 23 l = some x) :
    ∃ (x_0 : Int) (x_1 : Int) (x_2 : Int), l = [.int .i64 x_0, .int .i64 x_1, .int .i64 x_2] ∧ (Lit.int .i64 x_0).wf = true ∧ (Lit.int .i64 x_1).wf = true ∧ (Lit.int .i64 x_2).wf = true := by
  obtain ⟨xs, m, _, _, _, hlen, hg⟩ := DataW.trod_struct Tryd.underlying23 h
  match l, hl, xs, (show xs.length = 3 from hlen) with
  | [c0, c1, c2], _, [y0, y1, y2], _ =>
    have e0 : Tryd.prog.cellsOf 3 = 1 := by kernel_rfl
    have g0 : DataW.trod enc Tryd.prog w base (fun _ => true) held m 3 [c0] = some y0 := by simpa [e0] using hg 0 _ rfl
    obtain ⟨x_0, q0, _, wx_0⟩ := DataW.trod_int Tryd.underlying3 g0
    simp only [List.cons.injEq, and_true] at q0
    subst q0
    have e1 : Tryd.prog.cellsOf 3 = 1 := by kernel_rfl
    have g1 : DataW.trod enc Tryd.prog w base (fun _ => true) held m 3 [c1] = some y1 := by simpa [e1] using hg 1 _ rfl
    obtain ⟨x_1, q1, _, wx_1⟩ := DataW.trod_int Tryd.underlying3 g1
    simp only [List.cons.injEq, and_true] at q1
    subst q1
    have e2 : Tryd.prog.cellsOf 3 = 1 := by kernel_rfl
    have g2 : DataW.trod enc Tryd.prog w base (fun _ => true) held m 3 [c2] = some y2 := by simpa [e2] using hg 2 _ rfl
    obtain ⟨x_2, q2, _, wx_2⟩ := DataW.trod_int Tryd.underlying3 g2
    simp only [List.cons.injEq, and_true] at q2
    subst q2
    exact ⟨x_0, x_1, x_2, rfl, wx_0, wx_1, wx_2⟩
set_option maxRecDepth 100000 in
theorem opened23 {H : Type} {enc : TypeId × Value → H} {w : World} {r : Reach} {b0 base : Nat} {held : Bool} {v : Value} {d : DataW H} {p : List MemPlace} (hv : Value.okWide Tryd.prog w r b0 23 v) (h : DataW.Trod enc Tryd.prog w base (fun _ => true) held 23 v d p) :
    ∃ (x_0 : Int) (x_1 : Int) (x_2 : Int), v = .agg #[.int .i64 x_0, .int .i64 x_1, .int .i64 x_2] ∧ (Lit.int .i64 x_0).wf = true ∧ (Lit.int .i64 x_1).wf = true ∧ (Lit.int .i64 x_2).wf = true := by
  obtain ⟨cs, rfl, hz⟩ := okWide_struct Tryd.underlying23 hv
  obtain ⟨l⟩ := cs
  obtain ⟨fuel, hf⟩ := h
  have e : Tryd.prog.cellsOf 23 = 3 := by kernel_rfl
  rw [e] at hz
  obtain ⟨x_0, x_1, x_2, q, wx_0, wx_1, wx_2⟩ := cells23 (l := l) hz hf
  subst q
  exact ⟨x_0, x_1, x_2, rfl, wx_0, wx_1, wx_2⟩
set_option maxRecDepth 100000 in
theorem cells26 {H : Type} {enc : TypeId × Value → H} {w : World} {base : Nat} {held : Bool} {fuel : Nat} {l : List Value} {x : DataW H × List MemPlace} (hl : l.length = 2) (h : DataW.trod enc Tryd.prog w base (fun _ => true) held fuel 26 l = some x) :
    ∃ (x_0 : Int) (x_1 : Int), l = [.int .i64 x_0, .int .i64 x_1] ∧ (Lit.int .i64 x_0).wf = true ∧ (Lit.int .i64 x_1).wf = true := by
  obtain ⟨xs, m, _, _, _, hlen, hg⟩ := DataW.trod_struct Tryd.underlying26 h
  match l, hl, xs, (show xs.length = 2 from hlen) with
  | [c0, c1], _, [y0, y1], _ =>
    have e0 : Tryd.prog.cellsOf 3 = 1 := by kernel_rfl
    have g0 : DataW.trod enc Tryd.prog w base (fun _ => true) held m 3 [c0] = some y0 := by simpa [e0] using hg 0 _ rfl
    obtain ⟨x_0, q0, _, wx_0⟩ := DataW.trod_int Tryd.underlying3 g0
    simp only [List.cons.injEq, and_true] at q0
    subst q0
    have e1 : Tryd.prog.cellsOf 3 = 1 := by kernel_rfl
    have g1 : DataW.trod enc Tryd.prog w base (fun _ => true) held m 3 [c1] = some y1 := by simpa [e1] using hg 1 _ rfl
    obtain ⟨x_1, q1, _, wx_1⟩ := DataW.trod_int Tryd.underlying3 g1
    simp only [List.cons.injEq, and_true] at q1
    subst q1
    exact ⟨x_0, x_1, rfl, wx_0, wx_1⟩
set_option maxRecDepth 100000 in
theorem opened26 {H : Type} {enc : TypeId × Value → H} {w : World} {r : Reach} {b0 base : Nat} {held : Bool} {v : Value} {d : DataW H} {p : List MemPlace} (hv : Value.okWide Tryd.prog w r b0 26 v) (h : DataW.Trod enc Tryd.prog w base (fun _ => true) held 26 v d p) :
    ∃ (x_0 : Int) (x_1 : Int), v = .agg #[.int .i64 x_0, .int .i64 x_1] ∧ (Lit.int .i64 x_0).wf = true ∧ (Lit.int .i64 x_1).wf = true := by
  obtain ⟨cs, rfl, hz⟩ := okWide_struct Tryd.underlying26 hv
  obtain ⟨l⟩ := cs
  obtain ⟨fuel, hf⟩ := h
  have e : Tryd.prog.cellsOf 26 = 2 := by kernel_rfl
  rw [e] at hz
  obtain ⟨x_0, x_1, q, wx_0, wx_1⟩ := cells26 (l := l) hz hf
  subst q
  exact ⟨x_0, x_1, rfl, wx_0, wx_1⟩
set_option maxRecDepth 100000 in
theorem cells29 {H : Type} {enc : TypeId × Value → H} {w : World} {base : Nat} {held : Bool} {fuel : Nat} {l : List Value} {x : DataW H × List MemPlace} (hl : l.length = 6) (h : DataW.trod enc Tryd.prog w base (fun _ => true) held fuel 29 l = some x) :
    ∃ (x_0_0 : Int) (x_0_1 : Int) (ax_1 : Option Addr) (nx_1 cx_1 : Nat) (zx_1 : List Int) (ax_2 : Option Addr) (nx_2 cx_2 : Nat) (zx_2 : List Int) (ax_3 : Option Addr) (nx_3 cx_3 : Nat) (zx_3 : List Int) (x_4 : Bool), l = [.int .i64 x_0_0, .int .i64 x_0_1, .slice ax_1 nx_1 cx_1, .slice ax_2 nx_2 cx_2, .slice ax_3 nx_3 cx_3, .bool x_4] ∧ (Lit.int .i64 x_0_0).wf = true ∧ (Lit.int .i64 x_0_1).wf = true ∧ IsRow .u64 w ax_1 nx_1 cx_1 zx_1 ∧ IsRow .u64 w ax_2 nx_2 cx_2 zx_2 ∧ IsRow .u64 w ax_3 nx_3 cx_3 zx_3 := by
  obtain ⟨xs, m, _, _, _, hlen, hg⟩ := DataW.trod_struct Tryd.underlying29 h
  match l, hl, xs, (show xs.length = 5 from hlen) with
  | [c0, c1, c2, c3, c4, c5], _, [y0, y1, y2, y3, y4], _ =>
    have e0 : Tryd.prog.cellsOf 26 = 2 := by kernel_rfl
    have g0 : DataW.trod enc Tryd.prog w base (fun _ => true) held m 26 [c0, c1] = some y0 := by simpa [e0] using hg 0 _ rfl
    obtain ⟨x_0_0, x_0_1, q0, wx_0_0, wx_0_1⟩ := cells26 rfl g0
    simp only [List.cons.injEq, and_true] at q0
    obtain ⟨rfl, rfl⟩ := q0
    have e1 : Tryd.prog.cellsOf 27 = 1 := by kernel_rfl
    have g1 : DataW.trod enc Tryd.prog w base (fun _ => true) held m 27 [c2] = some y1 := by simpa [e1] using hg 1 _ rfl
    obtain ⟨ax_1, nx_1, cx_1, zx_1, rfl, wx_1⟩ := row_of Tryd.underlying27 Tryd.underlying58 (by kernel_rfl) g1
    have e2 : Tryd.prog.cellsOf 27 = 1 := by kernel_rfl
    have g2 : DataW.trod enc Tryd.prog w base (fun _ => true) held m 27 [c3] = some y2 := by simpa [e2] using hg 2 _ rfl
    obtain ⟨ax_2, nx_2, cx_2, zx_2, rfl, wx_2⟩ := row_of Tryd.underlying27 Tryd.underlying58 (by kernel_rfl) g2
    have e3 : Tryd.prog.cellsOf 27 = 1 := by kernel_rfl
    have g3 : DataW.trod enc Tryd.prog w base (fun _ => true) held m 27 [c4] = some y3 := by simpa [e3] using hg 3 _ rfl
    obtain ⟨ax_3, nx_3, cx_3, zx_3, rfl, wx_3⟩ := row_of Tryd.underlying27 Tryd.underlying58 (by kernel_rfl) g3
    have e4 : Tryd.prog.cellsOf 4 = 1 := by kernel_rfl
    have g4 : DataW.trod enc Tryd.prog w base (fun _ => true) held m 4 [c5] = some y4 := by simpa [e4] using hg 4 _ rfl
    obtain ⟨x_4, q4, _⟩ := DataW.trod_bool Tryd.underlying4 g4
    simp only [List.cons.injEq, and_true] at q4
    subst q4
    exact ⟨x_0_0, x_0_1, ax_1, nx_1, cx_1, zx_1, ax_2, nx_2, cx_2, zx_2, ax_3, nx_3, cx_3, zx_3, x_4, rfl, wx_0_0, wx_0_1, wx_1, wx_2, wx_3⟩
set_option maxRecDepth 100000 in
theorem opened29 {H : Type} {enc : TypeId × Value → H} {w : World} {r : Reach} {b0 base : Nat} {held : Bool} {v : Value} {d : DataW H} {p : List MemPlace} (hv : Value.okWide Tryd.prog w r b0 29 v) (h : DataW.Trod enc Tryd.prog w base (fun _ => true) held 29 v d p) :
    ∃ (x_0_0 : Int) (x_0_1 : Int) (ax_1 : Option Addr) (nx_1 cx_1 : Nat) (zx_1 : List Int) (ax_2 : Option Addr) (nx_2 cx_2 : Nat) (zx_2 : List Int) (ax_3 : Option Addr) (nx_3 cx_3 : Nat) (zx_3 : List Int) (x_4 : Bool), v = .agg #[.int .i64 x_0_0, .int .i64 x_0_1, .slice ax_1 nx_1 cx_1, .slice ax_2 nx_2 cx_2, .slice ax_3 nx_3 cx_3, .bool x_4] ∧ (Lit.int .i64 x_0_0).wf = true ∧ (Lit.int .i64 x_0_1).wf = true ∧ IsRow .u64 w ax_1 nx_1 cx_1 zx_1 ∧ IsRow .u64 w ax_2 nx_2 cx_2 zx_2 ∧ IsRow .u64 w ax_3 nx_3 cx_3 zx_3 := by
  obtain ⟨cs, rfl, hz⟩ := okWide_struct Tryd.underlying29 hv
  obtain ⟨l⟩ := cs
  obtain ⟨fuel, hf⟩ := h
  have e : Tryd.prog.cellsOf 29 = 6 := by kernel_rfl
  rw [e] at hz
  obtain ⟨x_0_0, x_0_1, ax_1, nx_1, cx_1, zx_1, ax_2, nx_2, cx_2, zx_2, ax_3, nx_3, cx_3, zx_3, x_4, q, wx_0_0, wx_0_1, wx_1, wx_2, wx_3⟩ := cells29 (l := l) hz hf
  subst q
  exact ⟨x_0_0, x_0_1, ax_1, nx_1, cx_1, zx_1, ax_2, nx_2, cx_2, zx_2, ax_3, nx_3, cx_3, zx_3, x_4, rfl, wx_0_0, wx_0_1, wx_1, wx_2, wx_3⟩
set_option maxRecDepth 100000 in
theorem cells34 {H : Type} {enc : TypeId × Value → H} {w : World} {base : Nat} {held : Bool} {fuel : Nat} {l : List Value} {x : DataW H × List MemPlace} (hl : l.length = 9) (h : DataW.trod enc Tryd.prog w base (fun _ => true) held fuel 34 l = some x) :
    ∃ (x_0_0 : Int) (x_0_1 : Int) (x_0_2 : Int) (x_1_0_0 : Int) (x_1_0_1 : Int) (ax_1_1 : Option Addr) (nx_1_1 cx_1_1 : Nat) (zx_1_1 : List Int) (ax_1_2 : Option Addr) (nx_1_2 cx_1_2 : Nat) (zx_1_2 : List Int) (ax_1_3 : Option Addr) (nx_1_3 cx_1_3 : Nat) (zx_1_3 : List Int) (x_1_4 : Bool), l = [.int .i64 x_0_0, .int .i64 x_0_1, .int .i64 x_0_2, .int .i64 x_1_0_0, .int .i64 x_1_0_1, .slice ax_1_1 nx_1_1 cx_1_1, .slice ax_1_2 nx_1_2 cx_1_2, .slice ax_1_3 nx_1_3 cx_1_3, .bool x_1_4] ∧ (Lit.int .i64 x_0_0).wf = true ∧ (Lit.int .i64 x_0_1).wf = true ∧ (Lit.int .i64 x_0_2).wf = true ∧ (Lit.int .i64 x_1_0_0).wf = true ∧ (Lit.int .i64 x_1_0_1).wf = true ∧ IsRow .u64 w ax_1_1 nx_1_1 cx_1_1 zx_1_1 ∧ IsRow .u64 w ax_1_2 nx_1_2 cx_1_2 zx_1_2 ∧ IsRow .u64 w ax_1_3 nx_1_3 cx_1_3 zx_1_3 := by
  obtain ⟨xs, m, _, _, _, hlen, hg⟩ := DataW.trod_struct Tryd.underlying34 h
  match l, hl, xs, (show xs.length = 2 from hlen) with
  | [c0, c1, c2, c3, c4, c5, c6, c7, c8], _, [y0, y1], _ =>
    have e0 : Tryd.prog.cellsOf 23 = 3 := by kernel_rfl
    have g0 : DataW.trod enc Tryd.prog w base (fun _ => true) held m 23 [c0, c1, c2] = some y0 := by simpa [e0] using hg 0 _ rfl
    obtain ⟨x_0_0, x_0_1, x_0_2, q0, wx_0_0, wx_0_1, wx_0_2⟩ := cells23 rfl g0
    simp only [List.cons.injEq, and_true] at q0
    obtain ⟨rfl, rfl, rfl⟩ := q0
    have e1 : Tryd.prog.cellsOf 29 = 6 := by kernel_rfl
    have g1 : DataW.trod enc Tryd.prog w base (fun _ => true) held m 29 [c3, c4, c5, c6, c7, c8] = some y1 := by simpa [e1] using hg 1 _ rfl
    obtain ⟨x_1_0_0, x_1_0_1, ax_1_1, nx_1_1, cx_1_1, zx_1_1, ax_1_2, nx_1_2, cx_1_2, zx_1_2, ax_1_3, nx_1_3, cx_1_3, zx_1_3, x_1_4, q1, wx_1_0_0, wx_1_0_1, wx_1_1, wx_1_2, wx_1_3⟩ := cells29 rfl g1
    simp only [List.cons.injEq, and_true] at q1
    obtain ⟨rfl, rfl, rfl, rfl, rfl, rfl⟩ := q1
    exact ⟨x_0_0, x_0_1, x_0_2, x_1_0_0, x_1_0_1, ax_1_1, nx_1_1, cx_1_1, zx_1_1, ax_1_2, nx_1_2, cx_1_2, zx_1_2, ax_1_3, nx_1_3, cx_1_3, zx_1_3, x_1_4, rfl, wx_0_0, wx_0_1, wx_0_2, wx_1_0_0, wx_1_0_1, wx_1_1, wx_1_2, wx_1_3⟩
set_option maxRecDepth 100000 in
theorem opened34 {H : Type} {enc : TypeId × Value → H} {w : World} {r : Reach} {b0 base : Nat} {held : Bool} {v : Value} {d : DataW H} {p : List MemPlace} (hv : Value.okWide Tryd.prog w r b0 34 v) (h : DataW.Trod enc Tryd.prog w base (fun _ => true) held 34 v d p) :
    ∃ (x_0_0 : Int) (x_0_1 : Int) (x_0_2 : Int) (x_1_0_0 : Int) (x_1_0_1 : Int) (ax_1_1 : Option Addr) (nx_1_1 cx_1_1 : Nat) (zx_1_1 : List Int) (ax_1_2 : Option Addr) (nx_1_2 cx_1_2 : Nat) (zx_1_2 : List Int) (ax_1_3 : Option Addr) (nx_1_3 cx_1_3 : Nat) (zx_1_3 : List Int) (x_1_4 : Bool), v = .agg #[.int .i64 x_0_0, .int .i64 x_0_1, .int .i64 x_0_2, .int .i64 x_1_0_0, .int .i64 x_1_0_1, .slice ax_1_1 nx_1_1 cx_1_1, .slice ax_1_2 nx_1_2 cx_1_2, .slice ax_1_3 nx_1_3 cx_1_3, .bool x_1_4] ∧ (Lit.int .i64 x_0_0).wf = true ∧ (Lit.int .i64 x_0_1).wf = true ∧ (Lit.int .i64 x_0_2).wf = true ∧ (Lit.int .i64 x_1_0_0).wf = true ∧ (Lit.int .i64 x_1_0_1).wf = true ∧ IsRow .u64 w ax_1_1 nx_1_1 cx_1_1 zx_1_1 ∧ IsRow .u64 w ax_1_2 nx_1_2 cx_1_2 zx_1_2 ∧ IsRow .u64 w ax_1_3 nx_1_3 cx_1_3 zx_1_3 := by
  obtain ⟨cs, rfl, hz⟩ := okWide_struct Tryd.underlying34 hv
  obtain ⟨l⟩ := cs
  obtain ⟨fuel, hf⟩ := h
  have e : Tryd.prog.cellsOf 34 = 9 := by kernel_rfl
  rw [e] at hz
  obtain ⟨x_0_0, x_0_1, x_0_2, x_1_0_0, x_1_0_1, ax_1_1, nx_1_1, cx_1_1, zx_1_1, ax_1_2, nx_1_2, cx_1_2, zx_1_2, ax_1_3, nx_1_3, cx_1_3, zx_1_3, x_1_4, q, wx_0_0, wx_0_1, wx_0_2, wx_1_0_0, wx_1_0_1, wx_1_1, wx_1_2, wx_1_3⟩ := cells34 (l := l) hz hf
  subst q
  exact ⟨x_0_0, x_0_1, x_0_2, x_1_0_0, x_1_0_1, ax_1_1, nx_1_1, cx_1_1, zx_1_1, ax_1_2, nx_1_2, cx_1_2, zx_1_2, ax_1_3, nx_1_3, cx_1_3, zx_1_3, x_1_4, rfl, wx_0_0, wx_0_1, wx_0_2, wx_1_0_0, wx_1_0_1, wx_1_1, wx_1_2, wx_1_3⟩
set_option maxRecDepth 100000 in
theorem cells46 {H : Type} {enc : TypeId × Value → H} {w : World} {base : Nat} {held : Bool} {fuel : Nat} {l : List Value} {x : DataW H × List MemPlace} (hl : l.length = 22) (h : DataW.trod enc Tryd.prog w base (fun _ => true) held fuel 46 l = some x) :
    ∃ (x_0_0_0 : Int) (x_0_0_1 : Int) (x_0_0_2 : Int) (x_0_1_0_0 : Int) (x_0_1_0_1 : Int) (ax_0_1_1 : Option Addr) (nx_0_1_1 cx_0_1_1 : Nat) (zx_0_1_1 : List Int) (ax_0_1_2 : Option Addr) (nx_0_1_2 cx_0_1_2 : Nat) (zx_0_1_2 : List Int) (ax_0_1_3 : Option Addr) (nx_0_1_3 cx_0_1_3 : Nat) (zx_0_1_3 : List Int) (x_0_1_4 : Bool) (x_1 : ByteArray) (x_2_0 : Int) (x_2_1 : Int) (x_2_2 : Int) (x_3_0_0 : Int) (x_3_0_1 : Int) (x_3_0_2 : Int) (x_3_1_0_0 : Int) (x_3_1_0_1 : Int) (ax_3_1_1 : Option Addr) (nx_3_1_1 cx_3_1_1 : Nat) (zx_3_1_1 : List Int) (ax_3_1_2 : Option Addr) (nx_3_1_2 cx_3_1_2 : Nat) (zx_3_1_2 : List Int) (ax_3_1_3 : Option Addr) (nx_3_1_3 cx_3_1_3 : Nat) (zx_3_1_3 : List Int) (x_3_1_4 : Bool), l = [.int .i64 x_0_0_0, .int .i64 x_0_0_1, .int .i64 x_0_0_2, .int .i64 x_0_1_0_0, .int .i64 x_0_1_0_1, .slice ax_0_1_1 nx_0_1_1 cx_0_1_1, .slice ax_0_1_2 nx_0_1_2 cx_0_1_2, .slice ax_0_1_3 nx_0_1_3 cx_0_1_3, .bool x_0_1_4, .string x_1, .int .i64 x_2_0, .int .i64 x_2_1, .int .i64 x_2_2, .int .i64 x_3_0_0, .int .i64 x_3_0_1, .int .i64 x_3_0_2, .int .i64 x_3_1_0_0, .int .i64 x_3_1_0_1, .slice ax_3_1_1 nx_3_1_1 cx_3_1_1, .slice ax_3_1_2 nx_3_1_2 cx_3_1_2, .slice ax_3_1_3 nx_3_1_3 cx_3_1_3, .bool x_3_1_4] ∧ (Lit.int .i64 x_0_0_0).wf = true ∧ (Lit.int .i64 x_0_0_1).wf = true ∧ (Lit.int .i64 x_0_0_2).wf = true ∧ (Lit.int .i64 x_0_1_0_0).wf = true ∧ (Lit.int .i64 x_0_1_0_1).wf = true ∧ IsRow .u64 w ax_0_1_1 nx_0_1_1 cx_0_1_1 zx_0_1_1 ∧ IsRow .u64 w ax_0_1_2 nx_0_1_2 cx_0_1_2 zx_0_1_2 ∧ IsRow .u64 w ax_0_1_3 nx_0_1_3 cx_0_1_3 zx_0_1_3 ∧ x_1.size ≤ maxLen ∧ (Lit.int .i64 x_2_0).wf = true ∧ (Lit.int .i64 x_2_1).wf = true ∧ (Lit.int .i64 x_2_2).wf = true ∧ (Lit.int .i64 x_3_0_0).wf = true ∧ (Lit.int .i64 x_3_0_1).wf = true ∧ (Lit.int .i64 x_3_0_2).wf = true ∧ (Lit.int .i64 x_3_1_0_0).wf = true ∧ (Lit.int .i64 x_3_1_0_1).wf = true ∧ IsRow .u64 w ax_3_1_1 nx_3_1_1 cx_3_1_1 zx_3_1_1 ∧ IsRow .u64 w ax_3_1_2 nx_3_1_2 cx_3_1_2 zx_3_1_2 ∧ IsRow .u64 w ax_3_1_3 nx_3_1_3 cx_3_1_3 zx_3_1_3 := by
  obtain ⟨xs, m, _, _, _, hlen, hg⟩ := DataW.trod_struct Tryd.underlying46 h
  match l, hl, xs, (show xs.length = 4 from hlen) with
  | [c0, c1, c2, c3, c4, c5, c6, c7, c8, c9, c10, c11, c12, c13, c14, c15, c16, c17, c18, c19, c20, c21], _, [y0, y1, y2, y3], _ =>
    have e0 : Tryd.prog.cellsOf 34 = 9 := by kernel_rfl
    have g0 : DataW.trod enc Tryd.prog w base (fun _ => true) held m 34 [c0, c1, c2, c3, c4, c5, c6, c7, c8] = some y0 := by simpa [e0] using hg 0 _ rfl
    obtain ⟨x_0_0_0, x_0_0_1, x_0_0_2, x_0_1_0_0, x_0_1_0_1, ax_0_1_1, nx_0_1_1, cx_0_1_1, zx_0_1_1, ax_0_1_2, nx_0_1_2, cx_0_1_2, zx_0_1_2, ax_0_1_3, nx_0_1_3, cx_0_1_3, zx_0_1_3, x_0_1_4, q0, wx_0_0_0, wx_0_0_1, wx_0_0_2, wx_0_1_0_0, wx_0_1_0_1, wx_0_1_1, wx_0_1_2, wx_0_1_3⟩ := cells34 rfl g0
    simp only [List.cons.injEq, and_true] at q0
    obtain ⟨rfl, rfl, rfl, rfl, rfl, rfl, rfl, rfl, rfl⟩ := q0
    have e1 : Tryd.prog.cellsOf 9 = 1 := by kernel_rfl
    have g1 : DataW.trod enc Tryd.prog w base (fun _ => true) held m 9 [c9] = some y1 := by simpa [e1] using hg 1 _ rfl
    obtain ⟨x_1, q1, _, wx_1⟩ := DataW.trod_string Tryd.underlying9 g1
    simp only [List.cons.injEq, and_true] at q1
    subst q1
    have e2 : Tryd.prog.cellsOf 23 = 3 := by kernel_rfl
    have g2 : DataW.trod enc Tryd.prog w base (fun _ => true) held m 23 [c10, c11, c12] = some y2 := by simpa [e2] using hg 2 _ rfl
    obtain ⟨x_2_0, x_2_1, x_2_2, q2, wx_2_0, wx_2_1, wx_2_2⟩ := cells23 rfl g2
    simp only [List.cons.injEq, and_true] at q2
    obtain ⟨rfl, rfl, rfl⟩ := q2
    have e3 : Tryd.prog.cellsOf 34 = 9 := by kernel_rfl
    have g3 : DataW.trod enc Tryd.prog w base (fun _ => true) held m 34 [c13, c14, c15, c16, c17, c18, c19, c20, c21] = some y3 := by simpa [e3] using hg 3 _ rfl
    obtain ⟨x_3_0_0, x_3_0_1, x_3_0_2, x_3_1_0_0, x_3_1_0_1, ax_3_1_1, nx_3_1_1, cx_3_1_1, zx_3_1_1, ax_3_1_2, nx_3_1_2, cx_3_1_2, zx_3_1_2, ax_3_1_3, nx_3_1_3, cx_3_1_3, zx_3_1_3, x_3_1_4, q3, wx_3_0_0, wx_3_0_1, wx_3_0_2, wx_3_1_0_0, wx_3_1_0_1, wx_3_1_1, wx_3_1_2, wx_3_1_3⟩ := cells34 rfl g3
    simp only [List.cons.injEq, and_true] at q3
    obtain ⟨rfl, rfl, rfl, rfl, rfl, rfl, rfl, rfl, rfl⟩ := q3
    exact ⟨x_0_0_0, x_0_0_1, x_0_0_2, x_0_1_0_0, x_0_1_0_1, ax_0_1_1, nx_0_1_1, cx_0_1_1, zx_0_1_1, ax_0_1_2, nx_0_1_2, cx_0_1_2, zx_0_1_2, ax_0_1_3, nx_0_1_3, cx_0_1_3, zx_0_1_3, x_0_1_4, x_1, x_2_0, x_2_1, x_2_2, x_3_0_0, x_3_0_1, x_3_0_2, x_3_1_0_0, x_3_1_0_1, ax_3_1_1, nx_3_1_1, cx_3_1_1, zx_3_1_1, ax_3_1_2, nx_3_1_2, cx_3_1_2, zx_3_1_2, ax_3_1_3, nx_3_1_3, cx_3_1_3, zx_3_1_3, x_3_1_4, rfl, wx_0_0_0, wx_0_0_1, wx_0_0_2, wx_0_1_0_0, wx_0_1_0_1, wx_0_1_1, wx_0_1_2, wx_0_1_3, wx_1, wx_2_0, wx_2_1, wx_2_2, wx_3_0_0, wx_3_0_1, wx_3_0_2, wx_3_1_0_0, wx_3_1_0_1, wx_3_1_1, wx_3_1_2, wx_3_1_3⟩
set_option maxRecDepth 100000 in
theorem opened46 {H : Type} {enc : TypeId × Value → H} {w : World} {r : Reach} {b0 base : Nat} {held : Bool} {v : Value} {d : DataW H} {p : List MemPlace} (hv : Value.okWide Tryd.prog w r b0 46 v) (h : DataW.Trod enc Tryd.prog w base (fun _ => true) held 46 v d p) :
    ∃ (x_0_0_0 : Int) (x_0_0_1 : Int) (x_0_0_2 : Int) (x_0_1_0_0 : Int) (x_0_1_0_1 : Int) (ax_0_1_1 : Option Addr) (nx_0_1_1 cx_0_1_1 : Nat) (zx_0_1_1 : List Int) (ax_0_1_2 : Option Addr) (nx_0_1_2 cx_0_1_2 : Nat) (zx_0_1_2 : List Int) (ax_0_1_3 : Option Addr) (nx_0_1_3 cx_0_1_3 : Nat) (zx_0_1_3 : List Int) (x_0_1_4 : Bool) (x_1 : ByteArray) (x_2_0 : Int) (x_2_1 : Int) (x_2_2 : Int) (x_3_0_0 : Int) (x_3_0_1 : Int) (x_3_0_2 : Int) (x_3_1_0_0 : Int) (x_3_1_0_1 : Int) (ax_3_1_1 : Option Addr) (nx_3_1_1 cx_3_1_1 : Nat) (zx_3_1_1 : List Int) (ax_3_1_2 : Option Addr) (nx_3_1_2 cx_3_1_2 : Nat) (zx_3_1_2 : List Int) (ax_3_1_3 : Option Addr) (nx_3_1_3 cx_3_1_3 : Nat) (zx_3_1_3 : List Int) (x_3_1_4 : Bool), v = .agg #[.int .i64 x_0_0_0, .int .i64 x_0_0_1, .int .i64 x_0_0_2, .int .i64 x_0_1_0_0, .int .i64 x_0_1_0_1, .slice ax_0_1_1 nx_0_1_1 cx_0_1_1, .slice ax_0_1_2 nx_0_1_2 cx_0_1_2, .slice ax_0_1_3 nx_0_1_3 cx_0_1_3, .bool x_0_1_4, .string x_1, .int .i64 x_2_0, .int .i64 x_2_1, .int .i64 x_2_2, .int .i64 x_3_0_0, .int .i64 x_3_0_1, .int .i64 x_3_0_2, .int .i64 x_3_1_0_0, .int .i64 x_3_1_0_1, .slice ax_3_1_1 nx_3_1_1 cx_3_1_1, .slice ax_3_1_2 nx_3_1_2 cx_3_1_2, .slice ax_3_1_3 nx_3_1_3 cx_3_1_3, .bool x_3_1_4] ∧ (Lit.int .i64 x_0_0_0).wf = true ∧ (Lit.int .i64 x_0_0_1).wf = true ∧ (Lit.int .i64 x_0_0_2).wf = true ∧ (Lit.int .i64 x_0_1_0_0).wf = true ∧ (Lit.int .i64 x_0_1_0_1).wf = true ∧ IsRow .u64 w ax_0_1_1 nx_0_1_1 cx_0_1_1 zx_0_1_1 ∧ IsRow .u64 w ax_0_1_2 nx_0_1_2 cx_0_1_2 zx_0_1_2 ∧ IsRow .u64 w ax_0_1_3 nx_0_1_3 cx_0_1_3 zx_0_1_3 ∧ x_1.size ≤ maxLen ∧ (Lit.int .i64 x_2_0).wf = true ∧ (Lit.int .i64 x_2_1).wf = true ∧ (Lit.int .i64 x_2_2).wf = true ∧ (Lit.int .i64 x_3_0_0).wf = true ∧ (Lit.int .i64 x_3_0_1).wf = true ∧ (Lit.int .i64 x_3_0_2).wf = true ∧ (Lit.int .i64 x_3_1_0_0).wf = true ∧ (Lit.int .i64 x_3_1_0_1).wf = true ∧ IsRow .u64 w ax_3_1_1 nx_3_1_1 cx_3_1_1 zx_3_1_1 ∧ IsRow .u64 w ax_3_1_2 nx_3_1_2 cx_3_1_2 zx_3_1_2 ∧ IsRow .u64 w ax_3_1_3 nx_3_1_3 cx_3_1_3 zx_3_1_3 := by
  obtain ⟨cs, rfl, hz⟩ := okWide_struct Tryd.underlying46 hv
  obtain ⟨l⟩ := cs
  obtain ⟨fuel, hf⟩ := h
  have e : Tryd.prog.cellsOf 46 = 22 := by kernel_rfl
  rw [e] at hz
  obtain ⟨x_0_0_0, x_0_0_1, x_0_0_2, x_0_1_0_0, x_0_1_0_1, ax_0_1_1, nx_0_1_1, cx_0_1_1, zx_0_1_1, ax_0_1_2, nx_0_1_2, cx_0_1_2, zx_0_1_2, ax_0_1_3, nx_0_1_3, cx_0_1_3, zx_0_1_3, x_0_1_4, x_1, x_2_0, x_2_1, x_2_2, x_3_0_0, x_3_0_1, x_3_0_2, x_3_1_0_0, x_3_1_0_1, ax_3_1_1, nx_3_1_1, cx_3_1_1, zx_3_1_1, ax_3_1_2, nx_3_1_2, cx_3_1_2, zx_3_1_2, ax_3_1_3, nx_3_1_3, cx_3_1_3, zx_3_1_3, x_3_1_4, q, wx_0_0_0, wx_0_0_1, wx_0_0_2, wx_0_1_0_0, wx_0_1_0_1, wx_0_1_1, wx_0_1_2, wx_0_1_3, wx_1, wx_2_0, wx_2_1, wx_2_2, wx_3_0_0, wx_3_0_1, wx_3_0_2, wx_3_1_0_0, wx_3_1_0_1, wx_3_1_1, wx_3_1_2, wx_3_1_3⟩ := cells46 (l := l) hz hf
  subst q
  exact ⟨x_0_0_0, x_0_0_1, x_0_0_2, x_0_1_0_0, x_0_1_0_1, ax_0_1_1, nx_0_1_1, cx_0_1_1, zx_0_1_1, ax_0_1_2, nx_0_1_2, cx_0_1_2, zx_0_1_2, ax_0_1_3, nx_0_1_3, cx_0_1_3, zx_0_1_3, x_0_1_4, x_1, x_2_0, x_2_1, x_2_2, x_3_0_0, x_3_0_1, x_3_0_2, x_3_1_0_0, x_3_1_0_1, ax_3_1_1, nx_3_1_1, cx_3_1_1, zx_3_1_1, ax_3_1_2, nx_3_1_2, cx_3_1_2, zx_3_1_2, ax_3_1_3, nx_3_1_3, cx_3_1_3, zx_3_1_3, x_3_1_4, rfl, wx_0_0_0, wx_0_0_1, wx_0_0_2, wx_0_1_0_0, wx_0_1_0_1, wx_0_1_1, wx_0_1_2, wx_0_1_3, wx_1, wx_2_0, wx_2_1, wx_2_2, wx_3_0_0, wx_3_0_1, wx_3_0_2, wx_3_1_0_0, wx_3_1_0_1, wx_3_1_1, wx_3_1_2, wx_3_1_3⟩
set_option maxRecDepth 100000 in
theorem size46 {H : Type} {enc : TypeId × Value → H} {w : World} {base : Nat} {held : Bool} {fuel : Nat} {l : List Value} {x : DataW H × List MemPlace} (h : DataW.trod enc Tryd.prog w base (fun _ => true) held fuel 46 l = some x) {s : ByteArray} (hs : l[9]? = some (.string s)) :
    s.size ∈ DataW.weights Tryd.prog 46 x.1 := by
  obtain ⟨xs, m, _, hx, _, hlen, hg⟩ := DataW.trod_struct Tryd.underlying46 h
  have e1 : Tryd.prog.cellsOf 9 = 1 := by kernel_rfl
  have h1 : 1 < xs.length := by
    have : xs.length = 4 := hlen
    omega
  obtain ⟨h9, e9⟩ := List.getElem?_eq_some_iff.1 hs
  have g : DataW.trod enc Tryd.prog w base (fun _ => true) held m 9 ((l.drop 9).take (Tryd.prog.cellsOf 9)) = xs[1]? := hg 1 _ rfl
  rw [e1, List.drop_eq_getElem_cons h9, e9, List.take_succ_cons, List.take_zero, List.getElem?_eq_getElem h1] at g
  obtain ⟨x_1, q1, hy, _⟩ := DataW.trod_string Tryd.underlying9 g
  simp only [List.cons.injEq, and_true, Value.string.injEq] at q1
  subst q1
  have hw : ∀ n, n ∈ DataW.weightsEach Tryd.prog [34, 9, 23, 34] (xs.map (·.1)) → n ∈ DataW.weights Tryd.prog 46 (.agg (xs.map (·.1))) := by
    intro n hn
    unfold DataW.weights
    rw [Tryd.underlying46]
    exact hn
  rw [hx]
  refine hw _ (DataW.weights_mem_each (j := 1) (t := 9) (d := .lit (.string s.data.toList)) rfl (by rw [List.getElem?_map, List.getElem?_eq_getElem h1, hy]; rfl) _ ?_)
  unfold DataW.weights
  exact List.mem_singleton.2 rfl
theorem door_met (os : Os) (args : Array Value) : laidMetH Tryd.prog Rows.crcRecordsRow.laid ((World.doorLaid Tryd.prog 400 os).forCall (fun _ _ => 0) ⟨#[], args, []⟩).memory :=
  laidMetH_of_parts3 (fuel := 8) (laidMet_of_run' 8 (by kernel_rfl) (by kernel_rfl)) (by kernel_rfl) (by kernel_rfl)
set_option maxRecDepth 100000 in
theorem lifted (os : Os) (started : os.Started) (H : Type) (enc : TypeId × Value → H) :
    ReturnsInHanded {} Tryd.checked os 6 .any (fun w args => (Rows.crcRecordsSpec.pre enc Tryd.prog Tryd.f6 [] false w args ∧ laidMetH Tryd.prog Rows.crcRecordsRow.laid w) ∧ sizedMet enc Tryd.prog Tryd.f6 (OpenSpec.ofChange Rows.crcRecordsSpec) false w args) (Rows.crcRecordsSpec.post enc Tryd.prog Tryd.f6 false true false false) := by
  refine returnsInHanded_of_change_and (C := Tryd.checked) (X := fun w _ => laidMetH Tryd.prog Rows.crcRecordsRow.laid w) (fun _ _ _ hh h => h.of_heap hh) own started (by kernel_rfl) Tryd.func6
    (ChangeSpec.witness_shaped (enc := enc) (C := Tryd.checked) (os := os) (X := fun w _ => laidMetH Tryd.prog Rows.crcRecordsRow.laid w) false (World.doorLaid Tryd.prog 400 os) #[.agg #[.int .i64 0, .int .i64 0, .int .i64 0, .int .i64 0, .int .i64 0, .slice none 0 0, .slice none 0 0, .slice none 0 0, .bool false, .string ByteArray.empty, .int .i64 0, .int .i64 0, .int .i64 0, .int .i64 0, .int .i64 0, .int .i64 0, .int .i64 0, .int .i64 0, .slice none 0 0, .slice none 0 0, .slice none 0 0, .bool false]] 8 rfl (World.shaped_of_RefB (by kernel_rfl) (by kernel_rfl)) (by kernel_rfl) (by kernel_rfl) (by kernel_rfl) (door_met os _)) ?_
  intro W base args ds gs before hval0 hW hcnd hsz0 hL _
  have hsz : (DataW.weightsEach Tryd.prog (Tryd.f6.params.toList ++ Rows.crcRecordsSpec.plain.varTypes Tryd.prog) (ds ++ gs)).all (· ≤ reachBytes) = true := hsz0
  have hval : ∀ (j : Nat) t v, Tryd.f6.params[j]? = some t → args[j]? = some v → Value.okWide Tryd.prog W .any base t v := hval0
  have hW' := hW
  obtain ⟨p, q, hA0, hV, rfl, hfz, hnd⟩ := hW
  have hA : DataW.TrodAll enc Tryd.prog W 0 (fun _ => true) true Tryd.f6.params.toList args.toList ds p := hA0
  rw [Tryd.params6] at hA hval hsz
  obtain ⟨v0, vs0, d0, ds0, p0, q0, hargs, rfl, rfl, h0, r0⟩ := trodAll_cons hA
  obtain ⟨rfl, rfl, rfl⟩ := trodAll_nil r0
  obtain rfl : args = #[v0] := by cases args; simp_all
  obtain ⟨rfl, rfl⟩ := trodVars_none hV
  have k0 := h0
  have lt0 : ∀ x ∈ p0, x.block < W.heap.size := by obtain ⟨m, hm⟩ := k0; exact DataW.trod_lt m _ _ _ hm
  obtain ⟨x0_0_0_0, x0_0_0_1, x0_0_0_2, x0_0_1_0_0, x0_0_1_0_1, ax0_0_1_1, nx0_0_1_1, cx0_0_1_1, zx0_0_1_1, ax0_0_1_2, nx0_0_1_2, cx0_0_1_2, zx0_0_1_2, ax0_0_1_3, nx0_0_1_3, cx0_0_1_3, zx0_0_1_3, x0_0_1_4, x0_1, x0_2_0, x0_2_1, x0_2_2, x0_3_0_0, x0_3_0_1, x0_3_0_2, x0_3_1_0_0, x0_3_1_0_1, ax0_3_1_1, nx0_3_1_1, cx0_3_1_1, zx0_3_1_1, ax0_3_1_2, nx0_3_1_2, cx0_3_1_2, zx0_3_1_2, ax0_3_1_3, nx0_3_1_3, cx0_3_1_3, zx0_3_1_3, x0_3_1_4, rfl, wx0_0_0_0, wx0_0_0_1, wx0_0_0_2, wx0_0_1_0_0, wx0_0_1_0_1, wx0_0_1_1, wx0_0_1_2, wx0_0_1_3, wx0_1, wx0_2_0, wx0_2_1, wx0_2_2, wx0_3_0_0, wx0_3_0_1, wx0_3_0_2, wx0_3_1_0_0, wx0_3_1_0_1, wx0_3_1_1, wx0_3_1_2, wx0_3_1_3⟩ := opened46 (hval 0 46 v0 rfl rfl) h0
  obtain ⟨lx0_0_1_1, rfl, hrx0_0_1_1, hmx0_0_1_1, hwx0_0_1_1, hcx0_0_1_1⟩ := ReadsInt.ofRowC wx0_0_1_1
  obtain ⟨lx0_0_1_2, rfl, hrx0_0_1_2, hmx0_0_1_2, hwx0_0_1_2, hcx0_0_1_2⟩ := ReadsInt.ofRowC wx0_0_1_2
  obtain ⟨lx0_0_1_3, rfl, hrx0_0_1_3, hmx0_0_1_3, hwx0_0_1_3, hcx0_0_1_3⟩ := ReadsInt.ofRowC wx0_0_1_3
  obtain ⟨lx0_3_1_1, rfl, hrx0_3_1_1, hmx0_3_1_1, hwx0_3_1_1, hcx0_3_1_1⟩ := ReadsInt.ofRowC wx0_3_1_1
  obtain ⟨lx0_3_1_2, rfl, hrx0_3_1_2, hmx0_3_1_2, hwx0_3_1_2, hcx0_3_1_2⟩ := ReadsInt.ofRowC wx0_3_1_2
  obtain ⟨lx0_3_1_3, rfl, hrx0_3_1_3, hmx0_3_1_3, hwx0_3_1_3, hcx0_3_1_3⟩ := ReadsInt.ofRowC wx0_3_1_3
  have yx0_1 : x0_1.size ≤ 140737488351232 := by
    obtain ⟨m, hm⟩ := k0
    have hmem := size46 hm (s := x0_1) rfl
    have z := List.all_eq_true.1 hsz _ (DataW.weights_mem_each (j := 0) (t := 46) rfl rfl _ hmem)
    exact of_decide_eq_true z
  clear hA0 hval0 hsz0 hsz
  obtain ⟨k, hh⟩ := Pure.CrcRecords x0_0_0_0 x0_0_0_1 x0_0_0_2 x0_0_1_0_0 x0_0_1_0_1 lx0_0_1_1 lx0_0_1_2 lx0_0_1_3 x0_0_1_4 x0_1 x0_2_0 x0_2_1 x0_2_2 x0_3_0_0 x0_3_0_1 x0_3_0_2 x0_3_1_0_0 x0_3_1_0_1 lx0_3_1_1 lx0_3_1_2 lx0_3_1_3 x0_3_1_4 wx0_0_0_0 wx0_0_0_1 wx0_0_0_2 wx0_0_1_0_0 wx0_0_1_0_1 hmx0_0_1_1 hwx0_0_1_1 hmx0_0_1_2 hwx0_0_1_2 hmx0_0_1_3 hwx0_0_1_3 yx0_1 wx0_2_0 wx0_2_1 wx0_2_2 wx0_3_0_0 wx0_3_0_1 wx0_3_0_2 wx0_3_1_0_0 wx0_3_1_0_1 hmx0_3_1_1 hwx0_3_1_1 hmx0_3_1_2 hwx0_3_1_2 hmx0_3_1_3 hwx0_3_1_3
  refine (Pd.tallysticklaw14_CrcRecords.calls k x0_0_0_0 x0_0_0_1 x0_0_0_2 x0_0_1_0_0 x0_0_1_0_1 _ _ lx0_0_1_1 _ _ lx0_0_1_2 _ _ lx0_0_1_3 x0_0_1_4 x0_1 x0_2_0 x0_2_1 x0_2_2 x0_3_0_0 x0_3_0_1 x0_3_0_2 x0_3_1_0_0 x0_3_1_0_1 _ _ lx0_3_1_1 _ _ lx0_3_1_2 _ _ lx0_3_1_3 x0_3_1_4 true W (Hand.errAt_of_laid hL) (Kd.C_of_reads (d := (0 : Int)) (h1 := fun _ => rfl) hrx0_0_1_1) hcx0_0_1_1 (Kd.C_of_reads (d := (0 : Int)) (h1 := fun _ => rfl) hrx0_0_1_2) hcx0_0_1_2 (Kd.C_of_reads (d := (0 : Int)) (h1 := fun _ => rfl) hrx0_0_1_3) hcx0_0_1_3 (Kd.C_of_reads (d := (0 : Int)) (h1 := fun _ => rfl) hrx0_3_1_1) hcx0_3_1_1 (Kd.C_of_reads (d := (0 : Int)) (h1 := fun _ => rfl) hrx0_3_1_2) hcx0_3_1_2 (Kd.C_of_reads (d := (0 : Int)) (h1 := fun _ => rfl) hrx0_3_1_3) hcx0_3_1_3 ⟨rfl⟩ hh).mono ?_
  rintro e W' ⟨rfl, hd⟩
  have bel : Below W.heap.size W W' := hd
  exact ⟨_, rfl, _, _, _, [], _, [], hW', trodAll_mk1 (shut_bool Tryd.underlying4 _), (trodAll_cons_mk (Below.trod laidOut (by kernel_rfl) (of_decide_eq_true (by kernel_rfl)) k0 bel lt0) trodAll_mk0), rfl, bel.frame _, fun h => by cases h⟩
theorem over : Rows.crcRecordsRow.holds Tryd.pinned (OpenSpec.ofChange Rows.crcRecordsSpec) :=
  OpenClaim.holds_of_wide 6 Tryd.f6 rfl rfl rfl rfl rfl rfl rfl ⟨rfl, rfl, rfl, rfl, rfl⟩ rfl rfl rfl rfl rfl (by kernel_rfl) Tryd.func6 (by kernel_rfl)
    (of_decide_eq_true (by kernel_rfl)) (by unfold Func.isWrapper; first | (rw [if_pos (by decide +kernel)]; kernel_rfl) | (rw [if_neg (by decide +kernel)]; exact ⟨rfl, rfl⟩))
    (fun os started H enc _ => lifted os started H enc)
theorem card : Rows.CrcRecordsCardSaid :=
  Claim7.holds_tied_plain_at .later [] [.handle] true (true, "8e619aa83a58ce4e695ad28cad36a40ff0e5e92026027d171ba4e6bafca84b2d") true
    over (fun _ h => by cases h) (by kernel_rfl) (fun _ h => by cases h) crcRecords_row_tie rfl ⟨rfl, rfl⟩ (by kernel_rfl) rfl
    (fun f fn hf hfn => by
      obtain rfl : f = 6 := Option.some.inj ((show Tryd.prog.funcNamed Rows.crcRecordsRow.func = some 6 by kernel_rfl).symm.trans hf) |>.symm
      obtain rfl : fn = Tryd.f6 := (Option.some.inj (Tryd.func6.symm.trans hfn)).symm
      exact ⟨by kernel_rfl, fun j t ht => by
        rw [Tryd.params6] at ht
        have hm : t ∈ [46] := by simpa using Array.mem_of_getElem? ht
        have hall : ([46].all fun u => !Tryd.prog.wantsStandIn u) = true := by kernel_rfl
        exact (show Tryd.prog.wantsStandIn t = false by simpa using List.all_eq_true.1 hall t hm)⟩)
    (by kernel_rfl)
end Go.Proofs.YtanjahakoadecaaDoor.crcRecords
namespace Go.Proofs.YtanjahakoadecaaDoor
/-- The tied card, under a short name, for the claim. -/
theorem crcRecords_holds : Rows.CrcRecordsCardSaid := crcRecords.card
end Go.Proofs.YtanjahakoadecaaDoor
