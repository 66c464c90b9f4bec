/- crc.ordered, crc.may by hand: is a number in order; may a record be. Conditions: the rows are words. -/
import Derived.Test.YtanjahakoadecaaDoorHCrcN
import Derived.RangeFuncRecord
namespace Go.Proofs.YtanjahakoadecaaDoor.Hand
open Go.RowKit Go.Proofs.YtanjahakoadecaaDoorW.PrintWords Go.Proofs.YtanjahakoadecaaDoorW.PrintMore Go.Proofs.YtanjahakoadecaaDoor.Num
set_option linter.unusedVariables false
set_option linter.unusedSimpArgs false

/-- Is a number in order, and not too long? -/
def ordV (l : List Int) : Bool := decide (l.length ≤ 4096) && decide ((dig W (val W l)).length = l.length)
theorem crc_ordered (A : Option Addr) (n c : Nat) (l : List Int) (w : World) (hr : Rd w A n l) (hc : n ≤ c) (hi : InB W l) :
    Calls Tryd.prog 42 #[.slice A n c] w fun e w' => e = .returned (.bool (ordV l)) ∧ w' = w := by
  have hl := hr.1
  have hn := nat_norm_at A n c l w hr hc hi
  unfold ordV
  rw [hl]
  generalize (dig W (val W l)).length = m at *
  have HN := Aside0.mk hn
  clear hn hr hi
  by_cases h : n ≤ 4096
  · rw [decide_eq_true h, Bool.true_and]
    go_enter Tryd.func42, Tryd.ntmps42
    go_wp2_with ((go_at_call 35); (with_reducible refine HN.out.mono ?_); (rintro e w1 ⟨rfl, rfl⟩))
    refine bodyPost_ret (results_tmp rfl _ _ _) rfl ?_
    have hbe : ((m : Int) == (n : Int)) = decide (m = n) := by rw [Bool.eq_iff_iff, beq_iff_eq, decide_eq_true_iff]; omega
    exact ⟨by rw [← hbe]; rfl, rfl⟩
  · rw [decide_eq_false h, Bool.false_and]
    go_enter Tryd.func42, Tryd.ntmps42
    go_wp2
    refine bodyPost_ret (results_tmp rfl _ _ _) rfl ?_
    exact ⟨rfl, rfl⟩
/-- Is a number not one of four bytes? -/
def oddV (n : Int) : Bool := decide (n < 0) || decide (2147483647 < n)
theorem crc_odd (n : Int) (w : World) : Calls Tryd.prog 40 #[.int .i64 n] w fun e w' => e = .returned (.bool (oddV n)) ∧ w' = w := by
  unfold oddV
  go_enter Tryd.func40, Tryd.ntmps40
  go_wp2
  all_goals
    refine bodyPost_ret (results_tmp rfl _ _ _) rfl ?_
    exact ⟨by simp [*], rfl⟩
theorem any_of_take {l : List Int} {k : Nat} {p : Int → Bool} (h : (l.take k).any p = true) : l.any p = true := by rw [← List.take_append_drop k l, List.any_append, h]; rfl
set_option maxRecDepth 100000 in
theorem index_odd (A : Option Addr) (c : Nat) (l : List Int) (w : World) (hr : ReadsInt w .i64 A l.length l) :
    Calls Tryd.prog 48 #[.slice A l.length c, .func (.func 40) #[] #[]] w fun e w' => ∃ r : Int, e = .returned (.int .i64 r) ∧ (0 ≤ r ↔ l.any oddV = true) ∧ w' = w := by
  have hmax := hr.2.1
  have HR := Aside0.mk hr
  have HO := Aside0.mk crc_odd
  obtain ⟨n, hn⟩ : ∃ n, n = l.length := ⟨_, rfl⟩
  have HN := Aside0.mk hn
  rw [← hn] at hmax ⊢
  clear hr hn
  go_enter Tryd.func48, Tryd.ntmps48
  go_wp2
  go_loopw [8] (fun v8 wr => ∃ k : Nat, v8 = .int .i64 (k : Int) ∧ k ≤ n ∧ wr = w ∧ Aside0 ((l.take k).any oddV = false)) (fun v8 _ => n - (intOf v8).toNat)
  case atStart => exact ⟨0, rfl, Nat.zero_le _, rfl, ⟨rfl⟩⟩
  case round =>
    obtain ⟨k, rfl, hk, rfl, HF⟩ := hrel
    by_cases hlt : k < n
    · have hlen := HN.out
      obtain ⟨ad, hA, hcell⟩ := HR.out.2.2 (by omega)
      have hck := hcell k (by omega)
      subst hA
      have hs : l.take (k + 1) = l.take k ++ [l.getD k 0] := by
        rw [List.take_add_one, List.getElem?_eq_getElem (by omega), List.getD_eq_getElem?_getD, List.getElem?_eq_getElem (by omega)]
        rfl
      have HS := Aside0.mk hs
      clear hcell hs hlen
      generalize l.getD k 0 = x at *
      cases hx : oddV x with
      | true =>
        have HX := Aside0.mk hx
        have HOX := Aside0.mk (HO.out x)
        rw [hx] at HOX
        clear hx
        go_wp2_with ((go_at_call 40); (with_reducible refine (HOX.out _).mono ?_); (rintro e w1 ⟨rfl, rfl⟩))
        refine bodyPost_ret (results_tmp rfl _ _ _) rfl ?_
        exact ⟨(k : Int), rfl, ⟨fun _ => any_of_take (k := k + 1) (by rw [HS.out, List.any_append]; simp [HX.out]), fun _ => by omega⟩, rfl⟩
      | false =>
        have HX := Aside0.mk hx
        have HOX := Aside0.mk (HO.out x)
        rw [hx] at HOX
        clear hx
        go_wp2_with ((go_at_call 40); (with_reducible refine (HOX.out _).mono ?_); (rintro e w1 ⟨rfl, rfl⟩))
        exact ⟨⟨k + 1, rfl, hlt, trivial, ⟨by rw [HS.out, List.any_append, HF.out]; simp [HX.out]⟩⟩, by simp [intOf]; omega⟩
    · go_wp2
      refine bodyPost_ret (results_tmp rfl _ _ _) rfl ?_
      have hall : l.any oddV = false := by
        have h := HF.out
        rwa [List.take_of_length_le (by have := HN.out; omega)] at h
      exact ⟨-1, rfl, ⟨fun h => absurd h (by decide), fun h => by rw [hall] at h; cases h⟩, rfl⟩
theorem contains_odd (A : Option Addr) (c : Nat) (l : List Int) (w : World) (hr : ReadsInt w .i64 A l.length l) :
    Calls Tryd.prog 41 #[.slice A l.length c, .func (.func 40) #[] #[]] w fun e w' => e = .returned (.bool (l.any oddV)) ∧ w' = w := by
  have HI := Aside0.mk (index_odd A c l w hr)
  clear hr
  obtain ⟨n, hn⟩ : ∃ n, n = l.length := ⟨_, rfl⟩
  rw [← hn] at HI ⊢
  clear hn
  go_enter Tryd.func41, Tryd.ntmps41
  go_wp2_with ((go_at_call 48); (with_reducible refine HI.out.mono ?_); (rintro e w1 ⟨r, rfl, hr, rfl⟩); (have HRR := Aside0.mk hr); (clear hr))
  refine bodyPost_ret (results_tmp rfl _ _ _) rfl ?_
  have hb : decide (0 ≤ r) = l.any oddV := by
    rw [Bool.eq_iff_iff, decide_eq_true_iff]
    exact HRR.out
  exact ⟨by rw [← hb]; rfl, rfl⟩
/-- May a record be? -/
def mayV (c d g f t : Int) (p q r : List Int) : Bool := decide (0 ≤ c) && decide (c ≤ 255) && !([d, g, f, t].any oddV) && ordV p && ordV q && ordV r
set_option maxRecDepth 100000 in
theorem crc_may (c d g f t : Int) (AP : Option Addr) (cp : Nat) (p : List Int) (AQ : Option Addr) (cq : Nat) (q : List Int) (AR : Option Addr) (cr : Nat) (r : List Int) (mi : Bool) (w : World)
    (hp : Rd w AP p.length p) (hcp : p.length ≤ cp) (ip : InB W p) (hq : Rd w AQ q.length q) (hcq : q.length ≤ cq) (iq : InB W q) (hr : Rd w AR r.length r) (hcr : r.length ≤ cr) (ir : InB W r) :
    Calls Tryd.prog 23 #[.agg #[.int .i64 c, .int .i64 d, .int .i64 g, .int .i64 f, .int .i64 t, .slice AP p.length cp, .slice AQ q.length cq, .slice AR r.length cr, .bool mi]] w fun e w' => e = .returned (.bool (mayV c d g f t p q r)) ∧ Below w.heap.size w w' := by
  obtain ⟨W, hW⟩ : ∃ W, W = (w.alloc (.cells #[.int .i64 c, .int .i64 d, .int .i64 g, .int .i64 f, .int .i64 t, .slice AP p.length cp, .slice AQ q.length cq, .slice AR r.length cr, .bool mi] 34)).alloc (.cells #[.int .i64 d, .int .i64 g, .int .i64 f, .int .i64 t] 3) := ⟨_, rfl⟩
  have hB : Below w.heap.size w W := by
    rw [hW]
    exact ((Below.refl _ w).alloc (Nat.le_refl _) _).alloc (by rw [World.size_alloc]; exact Nat.le_succ _) _
  have hI : ReadsInt W .i64 (some ⟨w.heap.size + 1, 0, none⟩) 4 [d, g, f, t] := by
    refine ⟨rfl, by decide, fun _ => ⟨_, rfl, fun j hj => ?_⟩⟩
    have hb : W.heap[w.heap.size + 1]? = some (.cells #[.int .i64 d, .int .i64 g, .int .i64 f, .int .i64 t] 3 (0, 0)) := by
      rw [hW, ← World.size_alloc w (.cells #[.int .i64 c, .int .i64 d, .int .i64 g, .int .i64 f, .int .i64 t, .slice AP p.length cp, .slice AQ q.length cq, .slice AR r.length cr, .bool mi] 34)]
      exact World.alloc_heap_new _ _
    rw [Addr.add_lit, Nat.zero_add]
    simp only [World.cell?, hb]
    match j, hj with
    | 0, _ => rfl
    | 1, _ => rfl
    | 2, _ => rfl
    | 3, _ => rfl
  have hc := contains_odd (some ⟨w.heap.size + 1, 0, none⟩) 4 [d, g, f, t] W hI
  rw [show ([d, g, f, t] : List Int).length = 4 from rfl] at hc
  have h1 := crc_ordered AP p.length cp p W (ReadsInt.below hp hB) hcp ip
  have h2 := crc_ordered AQ q.length cq q W (ReadsInt.below hq hB) hcq iq
  have h3 := crc_ordered AR r.length cr r W (ReadsInt.below hr hB) hcr ir
  unfold mayV
  rw [hW] at hB hc h1 h2 h3
  generalize [d, g, f, t].any oddV = bo at *
  generalize ordV p = bp at *
  generalize ordV q = bq at *
  generalize ordV r = br at *
  have HB := Aside0.mk hB
  have HC := Aside0.mk hc
  have H1 := Aside0.mk h1
  have H2 := Aside0.mk h2
  have H3 := Aside0.mk h3
  clear hW hB hI hc h1 h2 h3 hp hq hr ip iq ir
  go_enter Tryd.func23, Tryd.ntmps23
  go_wp2_with (first
    | ((go_at_call 41); (with_reducible refine HC.out.mono ?_); (rintro e w1 ⟨rfl, rfl⟩))
    | ((go_at_call 42); (with_reducible refine H1.out.mono ?_); (rintro e w1 ⟨rfl, rfl⟩))
    | ((go_at_call 42); (with_reducible refine H2.out.mono ?_); (rintro e w1 ⟨rfl, rfl⟩))
    | ((go_at_call 42); (with_reducible refine H3.out.mono ?_); (rintro e w1 ⟨rfl, rfl⟩)))
  all_goals
    refine bodyPost_ret (results_tmp rfl _ _ _) rfl ?_
    refine ⟨?_, HB.out⟩
    first
      | (simp [*]; done)
      | (simp [*]; intros; omega)
def crc_ordered.f (l0 : List Int) : Option Bool := if inb l0 = true then some (ordV l0) else none
theorem crc_ordered.calls (A0 : Option Addr) (c0 : Nat) (l0 : List Int) (r : Bool) (w : World) (hr0 : Kd.C (Kd.int .u64) w A0 l0.length l0) (hc0 : l0.length ≤ c0) (h : crc_ordered.f l0 = some r) :
    Calls Tryd.prog 42 #[.slice A0 l0.length c0] w fun e w' => e = .returned (.bool r) ∧ Below w.heap.size w w' := by
  unfold crc_ordered.f at h
  split at h
  · rename_i hi
    cases h
    refine (crc_ordered A0 _ c0 l0 w (Rd.of_C hr0) hc0 (inb_iff.1 hi)).mono ?_
    rintro e w' ⟨rfl, rfl⟩
    exact ⟨rfl, Below.refl _ _⟩
  · cases h
def crc_may.f (a0 a1 a2 a3 a4 : Int) (l5 l6 l7 : List Int) (a8 : Bool) : Option Bool := if inb l5 = true ∧ inb l6 = true ∧ inb l7 = true then some (mayV a0 a1 a2 a3 a4 l5 l6 l7) else none
theorem crc_may.calls (a0 a1 a2 a3 a4 : Int) (A5 : Option Addr) (c5 : Nat) (l5 : List Int) (A6 : Option Addr) (c6 : Nat) (l6 : List Int) (A7 : Option Addr) (c7 : Nat) (l7 : List Int) (a8 : Bool) (r : Bool) (w : World)
    (hr5 : Kd.C (Kd.int .u64) w A5 l5.length l5) (hc5 : l5.length ≤ c5) (hr6 : Kd.C (Kd.int .u64) w A6 l6.length l6) (hc6 : l6.length ≤ c6) (hr7 : Kd.C (Kd.int .u64) w A7 l7.length l7) (hc7 : l7.length ≤ c7) (h : crc_may.f a0 a1 a2 a3 a4 l5 l6 l7 a8 = some r) :
    Calls Tryd.prog 23 #[.agg #[.int .i64 a0, .int .i64 a1, .int .i64 a2, .int .i64 a3, .int .i64 a4, .slice A5 l5.length c5, .slice A6 l6.length c6, .slice A7 l7.length c7, .bool a8]] w fun e w' => e = .returned (.bool r) ∧ Below w.heap.size w w' := by
  unfold crc_may.f at h
  split at h
  · rename_i hi
    cases h
    exact crc_may a0 a1 a2 a3 a4 A5 c5 l5 A6 c6 l6 A7 c7 l7 a8 w (Rd.of_C hr5) hc5 (inb_iff.1 hi.1) (Rd.of_C hr6) hc6 (inb_iff.1 hi.2.1) (Rd.of_C hr7) hc7 (inb_iff.1 hi.2.2)
  · cases h
end Go.Proofs.YtanjahakoadecaaDoor.Hand
