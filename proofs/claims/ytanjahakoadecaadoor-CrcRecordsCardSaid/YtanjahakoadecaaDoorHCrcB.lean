/- Texts joined into one: each with its own sentence of what is proved, and under which conditions. -/
import Derived.Test.YtanjahakoadecaaDoorHNum
import Derived.Test.YtanjahakoadecaaDoorProg
import Derived.Test.YtanjahakoadecaaDoorWMore
import Derived.Test.YtanjahakoadecaaDoorWShare
import Derived.WalkKit
import Derived.KernelRfl
import Derived.Handy
import Derived.LoopTactic
import Derived.Maps.AppendAt
import Derived.RangeFuncRecord
/- nat.Norm by hand, where no other function of nat is called: a number in order. The lines stand in XHNatA too. -/
namespace Go.Proofs.YtanjahakoadecaaDoor.Hand
open Go.RowKit Go.Proofs.YtanjahakoadecaaDoorW.PrintWords Go.Proofs.YtanjahakoadecaaDoorW.PrintMore Go.Proofs.YtanjahakoadecaaDoor.Num
set_option linter.unusedVariables false
set_option linter.unusedSimpArgs false

/-- A slice of words that reads as l: in world w. -/
abbrev Rd (w : World) (A : Option Addr) (n : Nat) (l : List Int) : Prop := ReadsInt w .u64 A n l
theorem Rd.of_C {w : World} {A : Option Addr} {n : Nat} {l : List Int} (h : Kd.C (Kd.int .u64) w A n l) : Rd w A n l := Kd.reads_of_C (enc := Value.int .u64) (d := (0 : Int)) (h1 := fun _ => rfl) h
theorem Rd.to_C {w : World} {A : Option Addr} {n : Nat} {l : List Int} (h : Rd w A n l) : Kd.C (Kd.int .u64) w A n l := Kd.C_of_reads (d := (0 : Int)) (h1 := fun _ => rfl) h
theorem Rd.take {w : World} {A : Option Addr} {n : Nat} {l : List Int} (h : Rd w A n l) (k : Nat) (hk : k ≤ n) : Rd w A k (l.take k) := ReadsInt.take_ h k hk
theorem block_add (a : Addr) (n : Nat) : (a.add n).block = a.block := by unfold Addr.add; split <;> rfl
/-- What is read lies in one block: it is read on in each world that has this block. -/
theorem Rd.foot {w : World} {A : Option Addr} {n : Nat} {l : List Int} {ok : Nat → Prop} (h : Rd w A n l) (hok : ∀ ad, A = some ad → 0 < n → ok ad.block) : Kd.F (Kd.int .u64) w ok A n l := fun W' hW => Rd.to_C ⟨h.1, h.2.1, fun hn => by
  obtain ⟨ad, rfl, hc⟩ := h.2.2 hn
  refine ⟨ad, rfl, fun j hj => ?_⟩
  have hcj := hc j hj
  have hlt := World.block_lt_of_cell? w _ hcj
  rw [block_add] at hlt
  have hb := hW ad.block (hok ad rfl hn) hlt
  have : (ad.add j).block = ad.block := block_add ad j
  rw [World.cell?_of_block (w := w) (by rw [this]; exact hb)]
  exact hcj⟩
/-- The form in which a result is told: words that lie in blocks of ok. -/
abbrev Vw (w : World) (base : Nat) (ok : Nat → Prop) (v : Value) (l : List Int) : Prop := Kd.V (Kd.int .u64) 58 w base ok v l
theorem Vw.reads {w : World} {base : Nat} {v : Value} {l : List Int} {ok : Nat → Prop} (h : Vw w base ok v l) : ∃ A c, v = .slice A l.length c ∧ l.length ≤ c ∧ Rd w A l.length l := by
  obtain ⟨A, c, rfl, hc, hf⟩ := h
  exact ⟨A, c, rfl, hc, Rd.of_C (Kd.F_now hf)⟩
theorem Vw.nil (w : World) (base : Nat) (ok : Nat → Prop) : Vw w base ok (.slice none 0 0) [] := Kd.V_nil _ _ _ _ _

theorem info64 : (Tryd.prog.info? 58).map (fun i => (i.zero, i.size, i.bytes)) = some (some (.int .u64 0), 1, 8) := by kernel_rfl

/-! ### nat.Norm -/
theorem run_cut3 (A : Option Addr) (n c m : Nat) (hm : m ≤ c) (W : World) :
    (Instr.slice 27 (.slice A n c) none (some (.int .i64 (m : Int))) (some (.int .i64 (m : Int)))).run Tryd.prog W = .ok (.slice A m m) W := by
  have h1 : (0 : Int) ≤ (m : Int) := by omega
  have h2 : (m : Int) ≤ (c : Int) := by omega
  obtain ⟨i, hi, hi2⟩ := Option.map_eq_some_iff.1 info64
  simp only [Prod.mk.injEq] at hi2
  have ha : (if m = 0 then A else A.map (·.add 0)) = A := by
    have : ∀ a : Addr, a.add 0 = a := fun a => by unfold Addr.add; simp
    split
    · rfl
    · cases A <;> simp [this]
  have e1 : ∀ w : World, (Instr.sliceBound (.int .i64 (m : Int)) c .slice3Acap).run Tryd.prog w = .ok m w := fun w => by rw [run_sliceBound _ _ _ _ _ h1 h2, Int.toNat_natCast]
  have e2 : ∀ w : World, (Instr.sliceBound (.int .i64 (m : Int)) m .slice3B).run Tryd.prog w = .ok m w := fun w => by rw [run_sliceBound _ _ _ _ _ h1 (Int.le_refl _), Int.toNat_natCast]
  simp [Instr.slice, run_underlying Tryd.underlying27, Instr.sliceBounds, e1, e2, sizeOf, typeInfo, hi, Result.andThen]
  simpa using ha

def NormPost (A : Option Addr) (l : List Int) (w : World) (e : Ending) (w' : World) : Prop :=
  ∃ m, m ≤ l.length ∧ l.take m = dig W (val W l) ∧ e = .returned (.slice A m m) ∧ w = w'
theorem nat_norm (A : Option Addr) (c : Nat) (l : List Int) (w : World) (hr : Rd w A l.length l) (hc : l.length ≤ c) (hb : InB W l) :
    Calls Tryd.prog 35 #[.slice A l.length c] w (NormPost A l w) := by
  have hmax := hr.2.1
  obtain ⟨n, hn⟩ : ∃ n, n = l.length := ⟨_, rfl⟩
  have HR := Aside0.mk hr
  have HN := Aside0.mk hn
  have HB := Aside0.mk hb
  rw [← hn] at hmax hc ⊢
  clear hr hb hn
  go_enter Tryd.func35, Tryd.ntmps35
  go_wp2
  go_loop [3] (fun t => ∃ k : Nat, k ≤ n ∧ t = .int .i64 k ∧ Aside0 (∀ j, k ≤ j → l.getD j 0 = 0)) (fun t => (intOf t).toNat)
  case atStart => exact ⟨n, Nat.le_refl _, rfl, ⟨fun j hj => by rw [List.getD_eq_getElem?_getD, List.getElem?_eq_none (by rw [← HN.out]; exact hj)]; rfl⟩⟩
  case round =>
    obtain ⟨k, hk, rfl, HZ⟩ := hrel
    rcases Nat.eq_zero_or_pos k with rfl | hk0
    · have hcut := run_cut3 A n c 0 (by omega)
      go_wp2
      go_ret
      obtain ⟨ho, hv⟩ := take_norm (B := W) (l := l) (n := 0) (by omega) (.inl rfl) HZ.out
      exact ⟨0, by omega, dig_of W_gt (inB_take HB.out 0) ho hv, rfl, rfl⟩
    · obtain ⟨j, rfl⟩ : ∃ j, k = j + 1 := ⟨k - 1, by omega⟩
      have hcut := run_cut3 A n c (j + 1) (by omega)
      obtain ⟨ad, hA, hcell⟩ := HR.out.2.2 (by have := HN.out; omega)
      have hcj := hcell j (by have := HN.out; omega)
      clear hcell
      obtain ⟨x, hx⟩ : ∃ x, x = l.getD j 0 := ⟨_, rfl⟩
      rw [← hx] at hcj
      have HX := Aside0.mk hx
      subst hA
      clear hx
      by_cases h0 : x = 0
      · subst h0
        go_wp2
        go_round
        case rel => exact ⟨j, by omega, by go_num, ⟨fun i hi => by
          rcases Nat.lt_or_ge j i with h | h
          · exact HZ.out i h
          · obtain rfl : i = j := by omega
            exact HX.out.symm⟩⟩
        case measure => simp [intOf]
      · have hx0 : (x == 0) = false := by simpa using h0
        have HX0 := Aside0.mk h0
        clear h0
        go_wp2
        go_ret
        obtain ⟨ho, hv⟩ := take_norm (B := W) (l := l) (n := j + 1) (by have := HN.out; omega) (.inr (by rw [Nat.add_sub_cancel, ← HX.out]; exact HX0.out)) HZ.out
        exact ⟨j + 1, by have := HN.out; omega, dig_of W_gt (inB_take HB.out _) ho hv, rfl, rfl⟩
/-- nat.Norm, how long it leaves the row said. -/
theorem nat_norm_at (A : Option Addr) (n c : Nat) (l : List Int) (w : World) (hr : Rd w A n l) (hc : n ≤ c) (hb : InB Num.W l) :
    Calls Tryd.prog 35 #[.slice A n c] w fun e w' => e = .returned (.slice A (dig Num.W (val Num.W l)).length (dig Num.W (val Num.W l)).length) ∧ w = w' := by
  have hl : l.length = n := hr.1
  subst hl
  refine (nat_norm A c l w hr hc hb).mono ?_
  rintro e w' ⟨m, hm, he, rfl, rfl⟩
  rw [← he, List.length_take, Nat.min_eq_left hm]
  exact ⟨rfl, rfl⟩
theorem val_take_lt {a : List Int} (h : InB W a) (k : Nat) : val W (a.take k) < W ^ k := by
  have h1 := val_lt W_pos (inB_take h k)
  exact Nat.lt_of_lt_of_le h1 (Nat.pow_le_pow_right W_pos (List.length_take_le k a))
theorem norm_facts {l : List Int} (hb : InB Num.W l) : (dig Num.W (val Num.W l)).length ≤ l.length ∧ l.take (dig Num.W (val Num.W l)).length = dig Num.W (val Num.W l) := by
  have hlt := val_lt Num.W_pos hb
  have h1 := dig_length_le Num.W_gt hlt
  have hval : val Num.W l < Num.W ^ (dig Num.W (val Num.W l)).length := by have := val_lt Num.W_pos (dig_inB Num.W_gt (val Num.W l)); rwa [val_dig Num.W_gt] at this
  refine ⟨h1, dig_of Num.W_gt (inB_take hb _) ?_ ?_⟩
  · rcases Nat.eq_zero_or_pos (dig Num.W (val Num.W l)).length with h | h
    · rw [h]; exact .inl (by simp)
    · obtain ⟨k, hk⟩ : ∃ k, (dig Num.W (val Num.W l)).length = k + 1 := ⟨_, (Nat.succ_pred_eq_of_pos h).symm⟩
      rw [hk]
      refine .inr ?_
      have h0 : l.getD k 0 ≠ 0 := fun h0 => by
        have e := val_take_succ Num.W l k
        have hz : val Num.W (l.drop (k + 1)) = 0 := by
          have h3 : val Num.W l < Num.W ^ (k + 1) := by rw [← hk]; exact hval
          rw [val_drop_div Num.W_pos hb (k + 1) (by omega), Nat.div_eq_of_lt h3]
        have e2 := val_take_drop Num.W l (k + 1) (by omega)
        rw [hz, Nat.mul_zero, Nat.add_zero] at e2
        rw [h0, show Int.toNat 0 = 0 from rfl, Nat.mul_zero, Nat.add_zero] at e
        have h4 : val Num.W l < Num.W ^ k := by rw [e2, e]; exact val_take_lt hb k
        have := dig_length_le Num.W_gt h4
        omega
      rw [List.getLastD_eq_getLast?, List.getLast?_eq_getElem?, List.length_take, Nat.min_eq_left (by omega), List.getElem?_take, if_pos (by omega), Nat.add_sub_cancel]
      rwa [List.getD_eq_getElem?_getD] at h0
  · have e2 := val_take_drop Num.W l (dig Num.W (val Num.W l)).length h1
    rw [val_take_mod Num.W_pos hb _ h1, Nat.mod_eq_of_lt hval]
end Go.Proofs.YtanjahakoadecaaDoor.Hand

/- crc.ordered, crc.may by hand: is a number in order; may a record be. Conditions: the rows are words. -/
namespace Go.Proofs.YtanjahakoadecaaDoor.Hand
open Go.RowKit Go.Proofs.YtanjahakoadecaaDoorW.PrintWords Go.Proofs.YtanjahakoadecaaDoorW.PrintMore Go.Proofs.YtanjahakoadecaaDoor.Num
set_option linter.unusedVariables false
set_option linter.unusedSimpArgs false

/-- Is a number in order, and not too long? -/
def ordV (l : List Int) : Bool := decide (l.length ≤ 4096) && decide ((dig W (val W l)).length = l.length)
theorem crc_ordered (A : Option Addr) (n c : Nat) (l : List Int) (w : World) (hr : Rd w A n l) (hc : n ≤ c) (hi : InB W l) :
    Calls Tryd.prog 42 #[.slice A n c] w fun e w' => e = .returned (.bool (ordV l)) ∧ w' = w := by
  have hl := hr.1
  have hn := nat_norm_at A n c l w hr hc hi
  unfold ordV
  rw [hl]
  generalize (dig W (val W l)).length = m at *
  have HN := Aside0.mk hn
  clear hn hr hi
  by_cases h : n ≤ 4096
  · rw [decide_eq_true h, Bool.true_and]
    go_enter Tryd.func42, Tryd.ntmps42
    go_wp2_with ((go_at_call 35); (with_reducible refine HN.out.mono ?_); (rintro e w1 ⟨rfl, rfl⟩))
    refine bodyPost_ret (results_tmp rfl _ _ _) rfl ?_
    have hbe : ((m : Int) == (n : Int)) = decide (m = n) := by rw [Bool.eq_iff_iff, beq_iff_eq, decide_eq_true_iff]; omega
    exact ⟨by rw [← hbe]; rfl, rfl⟩
  · rw [decide_eq_false h, Bool.false_and]
    go_enter Tryd.func42, Tryd.ntmps42
    go_wp2
    refine bodyPost_ret (results_tmp rfl _ _ _) rfl ?_
    exact ⟨rfl, rfl⟩
/-- Is a number not one of four bytes? -/
def oddV (n : Int) : Bool := decide (n < 0) || decide (2147483647 < n)
theorem crc_odd (n : Int) (w : World) : Calls Tryd.prog 40 #[.int .i64 n] w fun e w' => e = .returned (.bool (oddV n)) ∧ w' = w := by
  unfold oddV
  go_enter Tryd.func40, Tryd.ntmps40
  go_wp2
  all_goals
    refine bodyPost_ret (results_tmp rfl _ _ _) rfl ?_
    exact ⟨by simp [*], rfl⟩
theorem any_of_take {l : List Int} {k : Nat} {p : Int → Bool} (h : (l.take k).any p = true) : l.any p = true := by rw [← List.take_append_drop k l, List.any_append, h]; rfl
set_option maxRecDepth 100000 in
theorem index_odd (A : Option Addr) (c : Nat) (l : List Int) (w : World) (hr : ReadsInt w .i64 A l.length l) :
    Calls Tryd.prog 48 #[.slice A l.length c, .func (.func 40) #[] #[]] w fun e w' => ∃ r : Int, e = .returned (.int .i64 r) ∧ (0 ≤ r ↔ l.any oddV = true) ∧ w' = w := by
  have hmax := hr.2.1
  have HR := Aside0.mk hr
  have HO := Aside0.mk crc_odd
  obtain ⟨n, hn⟩ : ∃ n, n = l.length := ⟨_, rfl⟩
  have HN := Aside0.mk hn
  rw [← hn] at hmax ⊢
  clear hr hn
  go_enter Tryd.func48, Tryd.ntmps48
  go_wp2
  go_loopw [8] (fun v8 wr => ∃ k : Nat, v8 = .int .i64 (k : Int) ∧ k ≤ n ∧ wr = w ∧ Aside0 ((l.take k).any oddV = false)) (fun v8 _ => n - (intOf v8).toNat)
  case atStart => exact ⟨0, rfl, Nat.zero_le _, rfl, ⟨rfl⟩⟩
  case round =>
    obtain ⟨k, rfl, hk, rfl, HF⟩ := hrel
    by_cases hlt : k < n
    · have hlen := HN.out
      obtain ⟨ad, hA, hcell⟩ := HR.out.2.2 (by omega)
      have hck := hcell k (by omega)
      subst hA
      have hs : l.take (k + 1) = l.take k ++ [l.getD k 0] := by
        rw [List.take_add_one, List.getElem?_eq_getElem (by omega), List.getD_eq_getElem?_getD, List.getElem?_eq_getElem (by omega)]
        rfl
      have HS := Aside0.mk hs
      clear hcell hs hlen
      generalize l.getD k 0 = x at *
      cases hx : oddV x with
      | true =>
        have HX := Aside0.mk hx
        have HOX := Aside0.mk (HO.out x)
        rw [hx] at HOX
        clear hx
        go_wp2_with ((go_at_call 40); (with_reducible refine (HOX.out _).mono ?_); (rintro e w1 ⟨rfl, rfl⟩))
        refine bodyPost_ret (results_tmp rfl _ _ _) rfl ?_
        exact ⟨(k : Int), rfl, ⟨fun _ => any_of_take (k := k + 1) (by rw [HS.out, List.any_append]; simp [HX.out]), fun _ => by omega⟩, rfl⟩
      | false =>
        have HX := Aside0.mk hx
        have HOX := Aside0.mk (HO.out x)
        rw [hx] at HOX
        clear hx
        go_wp2_with ((go_at_call 40); (with_reducible refine (HOX.out _).mono ?_); (rintro e w1 ⟨rfl, rfl⟩))
        exact ⟨⟨k + 1, rfl, hlt, trivial, ⟨by rw [HS.out, List.any_append, HF.out]; simp [HX.out]⟩⟩, by simp [intOf]; omega⟩
    · go_wp2
      refine bodyPost_ret (results_tmp rfl _ _ _) rfl ?_
      have hall : l.any oddV = false := by
        have h := HF.out
        rwa [List.take_of_length_le (by have := HN.out; omega)] at h
      exact ⟨-1, rfl, ⟨fun h => absurd h (by decide), fun h => by rw [hall] at h; cases h⟩, rfl⟩
theorem contains_odd (A : Option Addr) (c : Nat) (l : List Int) (w : World) (hr : ReadsInt w .i64 A l.length l) :
    Calls Tryd.prog 41 #[.slice A l.length c, .func (.func 40) #[] #[]] w fun e w' => e = .returned (.bool (l.any oddV)) ∧ w' = w := by
  have HI := Aside0.mk (index_odd A c l w hr)
  clear hr
  obtain ⟨n, hn⟩ : ∃ n, n = l.length := ⟨_, rfl⟩
  rw [← hn] at HI ⊢
  clear hn
  go_enter Tryd.func41, Tryd.ntmps41
  go_wp2_with ((go_at_call 48); (with_reducible refine HI.out.mono ?_); (rintro e w1 ⟨r, rfl, hr, rfl⟩); (have HRR := Aside0.mk hr); (clear hr))
  refine bodyPost_ret (results_tmp rfl _ _ _) rfl ?_
  have hb : decide (0 ≤ r) = l.any oddV := by
    rw [Bool.eq_iff_iff, decide_eq_true_iff]
    exact HRR.out
  exact ⟨by rw [← hb]; rfl, rfl⟩
/-- May a record be? -/
def mayV (c d g f t : Int) (p q r : List Int) : Bool := decide (0 ≤ c) && decide (c ≤ 255) && !([d, g, f, t].any oddV) && ordV p && ordV q && ordV r
set_option maxRecDepth 100000 in
theorem crc_may (c d g f t : Int) (AP : Option Addr) (cp : Nat) (p : List Int) (AQ : Option Addr) (cq : Nat) (q : List Int) (AR : Option Addr) (cr : Nat) (r : List Int) (mi : Bool) (w : World)
    (hp : Rd w AP p.length p) (hcp : p.length ≤ cp) (ip : InB W p) (hq : Rd w AQ q.length q) (hcq : q.length ≤ cq) (iq : InB W q) (hr : Rd w AR r.length r) (hcr : r.length ≤ cr) (ir : InB W r) :
    Calls Tryd.prog 23 #[.agg #[.int .i64 c, .int .i64 d, .int .i64 g, .int .i64 f, .int .i64 t, .slice AP p.length cp, .slice AQ q.length cq, .slice AR r.length cr, .bool mi]] w fun e w' => e = .returned (.bool (mayV c d g f t p q r)) ∧ Below w.heap.size w w' := by
  obtain ⟨W, hW⟩ : ∃ W, W = (w.alloc (.cells #[.int .i64 c, .int .i64 d, .int .i64 g, .int .i64 f, .int .i64 t, .slice AP p.length cp, .slice AQ q.length cq, .slice AR r.length cr, .bool mi] 34)).alloc (.cells #[.int .i64 d, .int .i64 g, .int .i64 f, .int .i64 t] 3) := ⟨_, rfl⟩
  have hB : Below w.heap.size w W := by
    rw [hW]
    exact ((Below.refl _ w).alloc (Nat.le_refl _) _).alloc (by rw [World.size_alloc]; exact Nat.le_succ _) _
  have hI : ReadsInt W .i64 (some ⟨w.heap.size + 1, 0, none⟩) 4 [d, g, f, t] := by
    refine ⟨rfl, by decide, fun _ => ⟨_, rfl, fun j hj => ?_⟩⟩
    have hb : W.heap[w.heap.size + 1]? = some (.cells #[.int .i64 d, .int .i64 g, .int .i64 f, .int .i64 t] 3 (0, 0)) := by
      rw [hW, ← World.size_alloc w (.cells #[.int .i64 c, .int .i64 d, .int .i64 g, .int .i64 f, .int .i64 t, .slice AP p.length cp, .slice AQ q.length cq, .slice AR r.length cr, .bool mi] 34)]
      exact World.alloc_heap_new _ _
    rw [Addr.add_lit, Nat.zero_add]
    simp only [World.cell?, hb]
    match j, hj with
    | 0, _ => rfl
    | 1, _ => rfl
    | 2, _ => rfl
    | 3, _ => rfl
  have hc := contains_odd (some ⟨w.heap.size + 1, 0, none⟩) 4 [d, g, f, t] W hI
  rw [show ([d, g, f, t] : List Int).length = 4 from rfl] at hc
  have h1 := crc_ordered AP p.length cp p W (ReadsInt.below hp hB) hcp ip
  have h2 := crc_ordered AQ q.length cq q W (ReadsInt.below hq hB) hcq iq
  have h3 := crc_ordered AR r.length cr r W (ReadsInt.below hr hB) hcr ir
  unfold mayV
  rw [hW] at hB hc h1 h2 h3
  generalize [d, g, f, t].any oddV = bo at *
  generalize ordV p = bp at *
  generalize ordV q = bq at *
  generalize ordV r = br at *
  have HB := Aside0.mk hB
  have HC := Aside0.mk hc
  have H1 := Aside0.mk h1
  have H2 := Aside0.mk h2
  have H3 := Aside0.mk h3
  clear hW hB hI hc h1 h2 h3 hp hq hr ip iq ir
  go_enter Tryd.func23, Tryd.ntmps23
  go_wp2_with (first
    | ((go_at_call 41); (with_reducible refine HC.out.mono ?_); (rintro e w1 ⟨rfl, rfl⟩))
    | ((go_at_call 42); (with_reducible refine H1.out.mono ?_); (rintro e w1 ⟨rfl, rfl⟩))
    | ((go_at_call 42); (with_reducible refine H2.out.mono ?_); (rintro e w1 ⟨rfl, rfl⟩))
    | ((go_at_call 42); (with_reducible refine H3.out.mono ?_); (rintro e w1 ⟨rfl, rfl⟩)))
  all_goals
    refine bodyPost_ret (results_tmp rfl _ _ _) rfl ?_
    refine ⟨?_, HB.out⟩
    first
      | (simp [*]; done)
      | (simp [*]; intros; omega)
def crc_ordered.f (l0 : List Int) : Option Bool := if inb l0 = true then some (ordV l0) else none
theorem crc_ordered.calls (A0 : Option Addr) (c0 : Nat) (l0 : List Int) (r : Bool) (w : World) (hr0 : Kd.C (Kd.int .u64) w A0 l0.length l0) (hc0 : l0.length ≤ c0) (h : crc_ordered.f l0 = some r) :
    Calls Tryd.prog 42 #[.slice A0 l0.length c0] w fun e w' => e = .returned (.bool r) ∧ Below w.heap.size w w' := by
  unfold crc_ordered.f at h
  split at h
  · rename_i hi
    cases h
    refine (crc_ordered A0 _ c0 l0 w (Rd.of_C hr0) hc0 (inb_iff.1 hi)).mono ?_
    rintro e w' ⟨rfl, rfl⟩
    exact ⟨rfl, Below.refl _ _⟩
  · cases h
def crc_may.f (a0 a1 a2 a3 a4 : Int) (l5 l6 l7 : List Int) (a8 : Bool) : Option Bool := if inb l5 = true ∧ inb l6 = true ∧ inb l7 = true then some (mayV a0 a1 a2 a3 a4 l5 l6 l7) else none
theorem crc_may.calls (a0 a1 a2 a3 a4 : Int) (A5 : Option Addr) (c5 : Nat) (l5 : List Int) (A6 : Option Addr) (c6 : Nat) (l6 : List Int) (A7 : Option Addr) (c7 : Nat) (l7 : List Int) (a8 : Bool) (r : Bool) (w : World)
    (hr5 : Kd.C (Kd.int .u64) w A5 l5.length l5) (hc5 : l5.length ≤ c5) (hr6 : Kd.C (Kd.int .u64) w A6 l6.length l6) (hc6 : l6.length ≤ c6) (hr7 : Kd.C (Kd.int .u64) w A7 l7.length l7) (hc7 : l7.length ≤ c7) (h : crc_may.f a0 a1 a2 a3 a4 l5 l6 l7 a8 = some r) :
    Calls Tryd.prog 23 #[.agg #[.int .i64 a0, .int .i64 a1, .int .i64 a2, .int .i64 a3, .int .i64 a4, .slice A5 l5.length c5, .slice A6 l6.length c6, .slice A7 l7.length c7, .bool a8]] w fun e w' => e = .returned (.bool r) ∧ Below w.heap.size w w' := by
  unfold crc_may.f at h
  split at h
  · rename_i hi
    cases h
    exact crc_may a0 a1 a2 a3 a4 A5 c5 l5 A6 c6 l6 A7 c7 l7 a8 w (Rd.of_C hr5) hc5 (inb_iff.1 hi.1) (Rd.of_C hr6) hc6 (inb_iff.1 hi.2.1) (Rd.of_C hr7) hc7 (inb_iff.1 hi.2.2)
  · cases h
end Go.Proofs.YtanjahakoadecaaDoor.Hand
