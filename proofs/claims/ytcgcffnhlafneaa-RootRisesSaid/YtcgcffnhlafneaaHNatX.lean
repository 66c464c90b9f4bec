/- Texts joined into one: each with its own sentence of what is proved, and under which conditions. -/
import Derived.Test.YtcgcffnhlafneaaHLen
import Derived.Test.YtcgcffnhlafneaaWShare
import Derived.RangeFuncBox
import Derived.RangeFuncNested
import Derived.RangeFuncBound
import Derived.RangeFuncCalls
import Derived.RangeFuncLeaves
import Derived.Shelf.Abstract
import Derived.OwnWalkIn
import Derived.TacticsInMore
import Derived.LoopNIn
import Derived.LoopIn
import Derived.Maps.AppendAt
import Derived.LoopTactic
import Derived.RegionIn
import Derived.Stop.RegionWithIn
import Derived.Laws.BitsLemmas
import Derived.Laws.CopyOwn
/- nat.at, nat.Norm and nat.pairs by hand: a word of a number; a number in order; the iterator over the words of two numbers. -/
namespace Go.Proofs.Ytcgcffnhlafneaa.Hand
open Go.RowKit Go.Proofs.YtcgcffnhlafneaaW.PrintWords Go.Proofs.YtcgcffnhlafneaaW.PrintMore Go.Proofs.Ytcgcffnhlafneaa.Num
set_option linter.unusedVariables false
set_option linter.unusedSimpArgs false

/-- A slice of words that reads as l: in world w. -/
abbrev Rd (w : World) (A : Option Addr) (n : Nat) (l : List Int) : Prop := ReadsInt w .u64 A n l
theorem Rd.of_C {w : World} {A : Option Addr} {n : Nat} {l : List Int} (h : Kd.C (Kd.int .u64) w A n l) : Rd w A n l := Kd.reads_of_C (enc := Value.int .u64) (d := (0 : Int)) (h1 := fun _ => rfl) h
theorem Rd.to_C {w : World} {A : Option Addr} {n : Nat} {l : List Int} (h : Rd w A n l) : Kd.C (Kd.int .u64) w A n l := Kd.C_of_reads (d := (0 : Int)) (h1 := fun _ => rfl) h
theorem Rd.take {w : World} {A : Option Addr} {n : Nat} {l : List Int} (h : Rd w A n l) (k : Nat) (hk : k ≤ n) : Rd w A k (l.take k) := ReadsInt.take_ h k hk
theorem block_add (a : Addr) (n : Nat) : (a.add n).block = a.block := by unfold Addr.add; split <;> rfl
/-- What is read lies in one block: it is read on in each world that has this block. -/
theorem Rd.foot {w : World} {A : Option Addr} {n : Nat} {l : List Int} {ok : Nat → Prop} (h : Rd w A n l) (hok : ∀ ad, A = some ad → 0 < n → ok ad.block) : Kd.F (Kd.int .u64) w ok A n l := fun W' hW => Rd.to_C ⟨h.1, h.2.1, fun hn => by
  obtain ⟨ad, rfl, hc⟩ := h.2.2 hn
  refine ⟨ad, rfl, fun j hj => ?_⟩
  have hcj := hc j hj
  have hlt := World.block_lt_of_cell? w _ hcj
  rw [block_add] at hlt
  have hb := hW ad.block (hok ad rfl hn) hlt
  have : (ad.add j).block = ad.block := block_add ad j
  rw [World.cell?_of_block (w := w) (by rw [this]; exact hb)]
  exact hcj⟩
/-- The form in which a result is told: words that lie in blocks of ok. -/
abbrev Vw (w : World) (base : Nat) (ok : Nat → Prop) (v : Value) (l : List Int) : Prop := Kd.V (Kd.int .u64) 39 w base ok v l
theorem Vw.of_Rd {w : World} {base : Nat} {A : Option Addr} {n c : Nat} {l : List Int} {ok : Nat → Prop} (h : Rd w A n l) (hc : n ≤ c) (hok : ∀ ad, A = some ad → 0 < n → ok ad.block) : Vw w base ok (.slice A n c) l := by
  have hl : l.length = n := h.1
  subst hl
  exact ⟨A, c, rfl, hc, h.foot hok⟩
theorem Vw.reads {w : World} {base : Nat} {v : Value} {l : List Int} {ok : Nat → Prop} (h : Vw w base ok v l) : ∃ A c, v = .slice A l.length c ∧ l.length ≤ c ∧ Rd w A l.length l := by
  obtain ⟨A, c, rfl, hc, hf⟩ := h
  exact ⟨A, c, rfl, hc, Rd.of_C (Kd.F_now hf)⟩
theorem Vw.nil (w : World) (base : Nat) (ok : Nat → Prop) : Vw w base ok (.slice none 0 0) [] := Kd.V_nil _ _ _ _ _

theorem info64 : (Try.prog.info? 39).map (fun i => (i.zero, i.size, i.bytes)) = some (some (.int .u64 0), 1, 8) := by kernel_rfl

/-! ### nat.at -/
theorem nat_at (A : Option Addr) (n c : Nat) (l : List Int) (i : Int) (w : World) (hr : Rd w A n l) :
    Calls Try.prog 45 #[.slice A n c, .int .i64 i] w fun e w' => e = .returned (.int .u64 (if 0 ≤ i then l.getD i.toNat 0 else 0)) ∧ w = w' := by
  have hl : l.length = n := hr.1
  by_cases h0 : i < 0
  · rw [if_neg (by omega)]
    clear hr
    go_enter Try.func45, Try.ntmps45
    go_wp2
    go_ret
    exact ⟨rfl, rfl⟩
  · rw [if_pos (by omega)]
    obtain ⟨k, rfl⟩ := Int.eq_ofNat_of_zero_le (show 0 ≤ i by omega)
    by_cases h1 : n ≤ k
    · have e : l.getD ((k : Nat) : Int).toNat 0 = 0 := by rw [Int.toNat_natCast, List.getD_eq_getElem?_getD, List.getElem?_eq_none (by omega)]; rfl
      rw [e]
      clear hr e
      go_enter Try.func45, Try.ntmps45
      go_wp2
      go_ret
      exact ⟨rfl, rfl⟩
    · obtain ⟨ad, rfl, hc⟩ := hr.2.2 (by omega)
      have hck := hc k (by omega)
      rw [Int.toNat_natCast]
      have hlt : k < n := by omega
      clear hc hr h0 h1
      generalize l.getD k 0 = x at hck ⊢
      go_enter Try.func45, Try.ntmps45
      go_wp2
      go_ret
      exact ⟨rfl, rfl⟩

/-! ### nat.Norm -/
theorem run_cut3 (A : Option Addr) (n c m : Nat) (hm : m ≤ c) (W : World) :
    (Instr.slice 22 (.slice A n c) none (some (.int .i64 (m : Int))) (some (.int .i64 (m : Int)))).run Try.prog W = .ok (.slice A m m) W := by
  have h1 : (0 : Int) ≤ (m : Int) := by omega
  have h2 : (m : Int) ≤ (c : Int) := by omega
  obtain ⟨i, hi, hi2⟩ := Option.map_eq_some_iff.1 info64
  simp only [Prod.mk.injEq] at hi2
  have ha : (if m = 0 then A else A.map (·.add 0)) = A := by
    have : ∀ a : Addr, a.add 0 = a := fun a => by unfold Addr.add; simp
    split
    · rfl
    · cases A <;> simp [this]
  have e1 : ∀ w : World, (Instr.sliceBound (.int .i64 (m : Int)) c .slice3Acap).run Try.prog w = .ok m w := fun w => by rw [run_sliceBound _ _ _ _ _ h1 h2, Int.toNat_natCast]
  have e2 : ∀ w : World, (Instr.sliceBound (.int .i64 (m : Int)) m .slice3B).run Try.prog w = .ok m w := fun w => by rw [run_sliceBound _ _ _ _ _ h1 (Int.le_refl _), Int.toNat_natCast]
  simp [Instr.slice, run_underlying Try.underlying22, Instr.sliceBounds, e1, e2, sizeOf, typeInfo, hi, Result.andThen]
  simpa using ha

def NormPost (A : Option Addr) (l : List Int) (w : World) (e : Ending) (w' : World) : Prop :=
  ∃ m, m ≤ l.length ∧ l.take m = dig W (val W l) ∧ e = .returned (.slice A m m) ∧ w = w'
theorem nat_norm (A : Option Addr) (c : Nat) (l : List Int) (w : World) (hr : Rd w A l.length l) (hc : l.length ≤ c) (hb : InB W l) :
    Calls Try.prog 41 #[.slice A l.length c] w (NormPost A l w) := by
  have hmax := hr.2.1
  obtain ⟨n, hn⟩ : ∃ n, n = l.length := ⟨_, rfl⟩
  have HR := Aside0.mk hr
  have HN := Aside0.mk hn
  have HB := Aside0.mk hb
  rw [← hn] at hmax hc ⊢
  clear hr hb hn
  go_enter Try.func41, Try.ntmps41
  go_wp2
  go_loop [3] (fun t => ∃ k : Nat, k ≤ n ∧ t = .int .i64 k ∧ Aside0 (∀ j, k ≤ j → l.getD j 0 = 0)) (fun t => (intOf t).toNat)
  case atStart => exact ⟨n, Nat.le_refl _, rfl, ⟨fun j hj => by rw [List.getD_eq_getElem?_getD, List.getElem?_eq_none (by rw [← HN.out]; exact hj)]; rfl⟩⟩
  case round =>
    obtain ⟨k, hk, rfl, HZ⟩ := hrel
    rcases Nat.eq_zero_or_pos k with rfl | hk0
    · have hcut := run_cut3 A n c 0 (by omega)
      go_wp2
      go_ret
      obtain ⟨ho, hv⟩ := take_norm (B := W) (l := l) (n := 0) (by omega) (.inl rfl) HZ.out
      exact ⟨0, by omega, dig_of W_gt (inB_take HB.out 0) ho hv, rfl, rfl⟩
    · obtain ⟨j, rfl⟩ : ∃ j, k = j + 1 := ⟨k - 1, by omega⟩
      have hcut := run_cut3 A n c (j + 1) (by omega)
      obtain ⟨ad, hA, hcell⟩ := HR.out.2.2 (by have := HN.out; omega)
      have hcj := hcell j (by have := HN.out; omega)
      clear hcell
      obtain ⟨x, hx⟩ : ∃ x, x = l.getD j 0 := ⟨_, rfl⟩
      rw [← hx] at hcj
      have HX := Aside0.mk hx
      subst hA
      clear hx
      by_cases h0 : x = 0
      · subst h0
        go_wp2
        go_round
        case rel => exact ⟨j, by omega, by go_num, ⟨fun i hi => by
          rcases Nat.lt_or_ge j i with h | h
          · exact HZ.out i h
          · obtain rfl : i = j := by omega
            exact HX.out.symm⟩⟩
        case measure => simp [intOf]
      · have hx0 : (x == 0) = false := by simpa using h0
        have HX0 := Aside0.mk h0
        clear h0
        go_wp2
        go_ret
        obtain ⟨ho, hv⟩ := take_norm (B := W) (l := l) (n := j + 1) (by have := HN.out; omega) (.inr (by rw [Nat.add_sub_cancel, ← HX.out]; exact HX0.out)) HZ.out
        exact ⟨j + 1, by have := HN.out; omega, dig_of W_gt (inB_take HB.out _) ho hv, rfl, rfl⟩
end Go.Proofs.Ytcgcffnhlafneaa.Hand

/- nat.pairs by hand: the iterator over the words of two numbers: to whatever loop body that keeps its two boxes and what lay below n0, all pairs come in order. -/
namespace Go.Proofs.Ytcgcffnhlafneaa.Hand
open Go.RowKit Go.Proofs.YtcgcffnhlafneaaW.PrintWords Go.Proofs.YtcgcffnhlafneaaW.PrintMore Go.Proofs.Ytcgcffnhlafneaa.Num
set_option linter.unusedVariables false
set_option linter.unusedSimpArgs false
attribute [local go_sem] Oper.semAt_some max2_int min2_int max_two min_two

theorem rd_wd {a : List Int} (h : InB W a) (k : Nat) : 0 ≤ a[k]?.getD 0 ∧ a[k]?.getD 0 < 18446744073709551616 := by
  have := inB_getD W_pos h k
  rw [List.getD_eq_getElem?_getD] at this
  exact this
/-- Two words. -/
abbrev WW := { x : Int × Int // Wd x.1 ∧ Wd x.2 }
/-- The pair of words at a place. -/
def pairAt {a b : List Int} (ha : InB W a) (hb : InB W b) (k : Nat) : WW := ⟨(a[k]?.getD 0, b[k]?.getD 0), rd_wd ha k, rd_wd hb k⟩
def upto {α : Type} (f : Nat → α) (k : Nat) : List α := (List.range k).map f
theorem upto_succ {α : Type} (f : Nat → α) (k : Nat) : upto f (k + 1) = upto f k ++ [f k] := by simp [upto, List.range_succ]
theorem upto_length {α : Type} (f : Nat → α) (k : Nat) : (upto f k).length = k := by simp [upto]
/-- What a round keeps: all below n0, and the two boxes. -/
structure KeepB (n0 Ba Bb : Nat) (W W' : World) : Prop where
  below : Below n0 W W'
  ba : W'.heap[Ba]? = W.heap[Ba]?
  bb : W'.heap[Bb]? = W.heap[Bb]?
theorem KeepB.refl (n0 Ba Bb : Nat) (W : World) : KeepB n0 Ba Bb W W := ⟨Below.refl _ _, rfl, rfl⟩
theorem KeepB.trans {n0 Ba Bb : Nat} {A B C : World} (h : KeepB n0 Ba Bb A B) (k : KeepB n0 Ba Bb B C) : KeepB n0 Ba Bb A C := ⟨h.below.trans k.below, k.ba.trans h.ba, k.bb.trans h.bb⟩
/-- A number's words lie below n0. -/
def RdB (n0 : Nat) (w : World) (A : Option Addr) (n : Nat) (l : List Int) : Prop := Rd w A n l ∧ ∀ ad, A = some ad → 0 < n → ad.block < n0
theorem RdB.keep {n0 : Nat} {w w' : World} {A : Option Addr} {n : Nat} {l : List Int} (h : RdB n0 w A n l) (hb : Below n0 w w') : RdB n0 w' A n l :=
  ⟨⟨h.1.1, h.1.2.1, fun hn => by
    obtain ⟨ad, e, hc⟩ := h.1.2.2 hn
    refine ⟨ad, e, fun j hj => ?_⟩
    rw [hb.cell (p := ad.add j) (by rw [block_add]; exact h.2 ad e hn)]
    exact hc j hj⟩, h.2⟩

theorem yout {e : Ending} {P Q : Prop} (h : (e = .returned (.bool true) ∧ P) ∨ (e = .returned (.bool false) ∧ Q)) : ∃ bb : Bool, e = .returned (.bool bb) ∧ Aside0 ((bb = true ∧ P) ∨ (bb = false ∧ Q)) := by
  rcases h with ⟨rfl, h⟩ | ⟨rfl, h⟩
  · exact ⟨true, rfl, ⟨.inl ⟨rfl, h⟩⟩⟩
  · exact ⟨false, rfl, ⟨.inr ⟨rfl, h⟩⟩⟩

set_option maxRecDepth 100000 in
set_option maxHeartbeats 400000 in
theorem pairs1_in (n : Nat) (hn : 1 ≤ n) (lp Ba Bb n0 na nb ca cb : Nat) (Aa Ab : Option Addr) (a b : List Int) (hia : InB Num.W a) (hib : InB Num.W b) (J Jx : List WW → World → Prop)
    (hY : ∀ pre x W, J pre W → pre.length < max na nb → YieldAt Fence.wide (n - 1) Try.prog lp #[.int .u64 x.1.1, .int .u64 x.1.2] W fun e W' =>
      (e = .returned (.bool true) ∧ J (pre ++ [x]) W' ∧ KeepB n0 Ba Bb W W') ∨ (e = .returned (.bool false) ∧ Jx (pre ++ [x]) W'))
    (hJd : ∀ pre W, J pre W → J pre W.drew)
    (W : World) (hba : W.heap[Ba]? = some (.cells #[.slice Aa na ca] 22 (0, 0))) (hbb : W.heap[Bb]? = some (.cells #[.slice Ab nb cb] 22 (0, 0)))
    (ha : RdB n0 W Aa na a) (hb : RdB n0 W Ab nb b) (h0 : J [] W) :
    CallsIn Fence.wide n Try.prog 57 #[.func (.yield lp) #[] #[], .pointer (some ⟨Ba, 0, none⟩), .pointer (some ⟨Bb, 0, none⟩)] W fun e W' => (∃ v, e = .returned v) ∧
      ((∃ ys, ys = upto (pairAt hia hib) (max na nb) ∧ J ys W') ∨ (∃ pre, (∃ k, k ≤ max na nb ∧ pre = upto (pairAt hia hib) k) ∧ Jx pre W')) := by
  have hma := ha.1.2.1
  have hmb := hb.1.2.1
  obtain ⟨m, hm⟩ : ∃ m, m = max na nb := ⟨_, rfl⟩
  rw [← hm] at hY ⊢
  have hmx2 : (if na < nb then ((nb : Nat) : Int) else ((na : Nat) : Int)) = ((m : Nat) : Int) := by rw [hm]; split <;> omega
  have hmx : (if ((na : Nat) : Int) < ((nb : Nat) : Int) then ((nb : Nat) : Int) else ((na : Nat) : Int)) = ((m : Nat) : Int) := by rw [hm]; split <;> omega
  have hml : m ≤ 9223372036854775807 := by omega
  have ca0 := blk_cell hba 0
  have cb0 := blk_cell hbb 0
  simp only [List.getElem?_toArray, List.getElem?_cons_zero] at ca0 cb0
  have HA := Aside0.mk ha
  have HB := Aside0.mk hb
  have HBA := Aside0.mk hba
  have HBB := Aside0.mk hbb
  have HM := Aside0.mk hm
  have HY := Aside0.mk hY
  have HJD := Aside0.mk hJd
  clear ha hb hba hbb hm hY hJd
  refine callsIn_of_wp Try.func57 rfl trivial ?_ rfl
  simp only [Try.ntmps57, List.size_toArray, List.length_cons, List.length_nil, Nat.reduceAdd, Nat.reduceSub, Array.replicate_succ, Array.replicate_zero, List.push_toArray, List.append_toArray, List.nil_append, List.cons_append]
  gi_wp2
  gi_loopw [10] (fun i wr => ∃ k : Nat, k ≤ m ∧ i = .int .i64 k ∧ J (upto (pairAt hia hib) k) wr ∧ Aside0 (KeepB n0 Ba Bb W wr)) (fun i _ => m - (intOf i).toNat)
  case atStart => exact ⟨0, Nat.zero_le _, rfl, h0, ⟨KeepB.refl _ _ _ _⟩⟩
  case round =>
    obtain ⟨k, hk, rfl, hJs, HK⟩ := hrel
    by_cases hlt : k < m
    · have ba2 := HK.out.ba.trans HBA.out
      have bb2 := HK.out.bb.trans HBB.out
      have ca2 := blk_cell ba2 0
      have cb2 := blk_cell bb2 0
      simp only [List.getElem?_toArray, List.getElem?_cons_zero] at ca2 cb2
      have HA2 := Aside0.mk (HA.out.keep HK.out.below).1
      have HB2 := Aside0.mk (HB.out.keep HK.out.below).1
      have HJ := Aside0.mk hJs
      clear ba2 bb2 hJs
      obtain ⟨fn, tmps, assign, body, hy, hR⟩ := HY.out _ (pairAt hia hib k) wr.drew (HJD.out _ _ HJ.out) (by rw [upto_length]; exact hlt)
      dsimp only [pairAt] at hy
      gi_wp2
      have HA3 := Aside0.mk (show Rd wr.drew Aa na a from HA2.out)
      have HB3 := Aside0.mk (show Rd wr.drew Ab nb b from HB2.out)
      gi_region_with (first | ((refine ⟨trivial, ?_⟩); (gi_at_call 45); (with_reducible refine (callsIn_wide.2 (nat_at Aa na ca a _ _ HA3.out)).mono ?_); (rintro e w' ⟨rfl, rfl⟩)) | ((refine ⟨trivial, ?_⟩); (gi_at_call 45); (with_reducible refine (callsIn_wide.2 (nat_at Ab nb cb b _ _ HB3.out)).mono ?_); (rintro e w' ⟨rfl, rfl⟩)) | ((with_reducible refine hR.mono ?_); (rintro e W3 hout); (obtain ⟨bb, rfl, HZ⟩ := yout hout); (clear hout)))
      all_goals
        cases bb with
        | true =>
          obtain ⟨hJ3, hk3⟩ : J (upto (pairAt hia hib) k ++ [pairAt hia hib k]) W3 ∧ KeepB n0 Ba Bb wr.drew W3 := by
            rcases HZ.out with ⟨_, h⟩ | ⟨h, _⟩
            · exact h
            · cases h
          rw [← upto_succ] at hJ3
          have HJ3 := Aside0.mk hJ3
          have HK3 := Aside0.mk hk3
          clear hJ3 hk3 HZ
          gi_wp2
          go_roundw
          case rel => exact ⟨k + 1, by omega, by go_num, HJ3.out, ⟨HK.out.trans (KeepB.trans ⟨(Below.refl _ _).drew, rfl, rfl⟩ HK3.out)⟩⟩
          case measure => simp [intOf]; omega
        | false =>
          have hJx3 : Jx (upto (pairAt hia hib) k ++ [pairAt hia hib k]) W3 := by
            rcases HZ.out with ⟨h, _⟩ | ⟨_, h⟩
            · cases h
            · exact h
          have HJ3 := Aside0.mk hJx3
          clear hJx3 HZ
          gi_wp2
          refine bodyPost_ret (results_none rfl _ _ _) rfl ?_
          exact ⟨⟨_, rfl⟩, .inr ⟨_, ⟨k + 1, by omega, (upto_succ _ _).symm⟩, HJ3.out⟩⟩
    · obtain rfl : k = m := by omega
      gi_wp2
      go_end0
      exact ⟨⟨_, rfl⟩, .inl ⟨_, rfl, hJs⟩⟩

theorem drew_grownBy (W : World) : W.grownBy W.drew none := ⟨rfl, rfl, rfl, Nat.le_refl _, fun _ _ _ => rfl⟩
/-- The iterator's contract. -/
theorem pairs_stops (n : Nat) (hn : 1 ≤ n) (Ba Bb n0 na nb ca cb : Nat) (Aa Ab : Option Addr) (a b : List Int) (hia : InB Num.W a) (hib : InB Num.W b) (w : World)
    (hba : w.heap[Ba]? = some (.cells #[.slice Aa na ca] 22 (0, 0))) (hbb : w.heap[Bb]? = some (.cells #[.slice Ab nb cb] 22 (0, 0))) (hn0 : n0 ≤ w.heap.size)
    (ha : RdB n0 w Aa na a) (hb : RdB n0 w Ab nb b) :
    SeqStopsK Fence.wide n Try.prog 57 #[.pointer (some ⟨Ba, 0, none⟩), .pointer (some ⟨Bb, 0, none⟩)] (fun x : WW => #[.int .u64 x.1.1, .int .u64 x.1.2]) (KeepB n0 Ba Bb)
      (fun ys => ys = upto (pairAt hia hib) (max na nb)) (fun pre => ∃ k, k ≤ max na nb ∧ pre = upto (pairAt hia hib) k) (max na nb) w := fun l J Jx W hW hJ _ hY h0 =>
  pairs1_in n hn l Ba Bb n0 na nb ca cb Aa Ab a b hia hib J Jx hY (fun pre W' h => hJ pre W' _ none h (drew_grownBy W') (fun r e => by cases e)) W
    ((hW.block Ba (blk_lt hba)).trans hba) ((hW.block Bb (blk_lt hbb)).trans hbb) (ha.keep (hW.mono hn0)) (hb.keep (hW.mono hn0)) h0
theorem keepB_b {n0 Ba Bb : Nat} {w : World} (hn : n0 ≤ w.heap.size) (ha : Ba < w.heap.size) (hb : Bb < w.heap.size) (W : World) (l : Nat) (o o' : Obj) (hl : w.heap.size ≤ l) (h : W.heap[l]? = some o) (h1 : o.isCells = false) (h2 : o.isWalk = false) : KeepB n0 Ba Bb W (W.putObj l o') :=
  ⟨belowK_b hn W l o o' hl h h1 h2, World.putObj_heap_other (by omega), World.putObj_heap_other (by omega)⟩

theorem pairs_in (Aa Ab : Option Addr) (na nb ca cb : Nat) (w : World) :
    Calls Try.prog 46 #[.slice Aa na ca, .slice Ab nb cb] w fun e w' => e = .returned (.func (.func 57) #[] #[.pointer (some ⟨w.heap.size, 0, none⟩), .pointer (some ⟨w.heap.size + 1, 0, none⟩)]) ∧
      w' = (w.alloc (.cells #[.slice Aa na ca] 22)).alloc (.cells #[.slice Ab nb cb] 22) := by
  go_enter Try.func46, Try.ntmps46
  go_wp2
  go_ret
  exact ⟨rfl, rfl⟩

theorem Rd.toB {w : World} {A : Option Addr} {n : Nat} {l : List Int} (h : Rd w A n l) : RdB w.heap.size w A n l :=
  ⟨h, fun ad e hn => by
    obtain ⟨ad', e', hc⟩ := h.2.2 hn
    rw [e] at e'
    cases e'
    have := World.block_lt_of_cell? w _ (hc 0 hn)
    rwa [block_add] at this⟩

/-! ### nat.Cmp -/
def cmpv (m n : Nat) : Int := if m < n then -1 else if n < m then 1 else 0
def cmpF : List WW → Int := List.foldl (fun o p => if p.1.1 < p.1.2 then -1 else if p.1.2 < p.1.1 then 1 else o) 0
theorem cmpF_snoc (l : List WW) (p : WW) : cmpF (l ++ [p]) = if p.1.1 < p.1.2 then -1 else if p.1.2 < p.1.1 then 1 else cmpF l := by simp [cmpF]
theorem val_take_lt {a : List Int} (h : InB W a) (k : Nat) : val W (a.take k) < W ^ k := by
  have h1 := val_lt W_pos (inB_take h k)
  exact Nat.lt_of_lt_of_le h1 (Nat.pow_le_pow_right W_pos (List.length_take_le k a))
theorem cmpF_upto {a b : List Int} (hia : InB W a) (hib : InB W b) : ∀ k, cmpF (upto (pairAt hia hib) k) = cmpv (val W (a.take k)) (val W (b.take k))
  | 0 => by simp [upto, cmpF, cmpv, val]
  | k + 1 => by
    rw [upto_succ, cmpF_snoc, cmpF_upto hia hib k, val_take_succ, val_take_succ, List.getD_eq_getElem?_getD, List.getD_eq_getElem?_getD]
    have h1 := rd_wd hia k
    have h2 := rd_wd hib k
    have l1 := val_take_lt hia k
    have l2 := val_take_lt hib k
    have e1 : (pairAt hia hib k).1.1 = a[k]?.getD 0 := rfl
    have e2 : (pairAt hia hib k).1.2 = b[k]?.getD 0 := rfl
    rw [e1, e2]
    clear e1 e2
    generalize val W (a.take k) = u at *
    generalize val W (b.take k) = v at *
    generalize W ^ k = p at *
    generalize a[k]?.getD 0 = x at *
    generalize b[k]?.getD 0 = y at *
    obtain ⟨x, rfl⟩ := Int.eq_ofNat_of_zero_le h1.1
    obtain ⟨y, rfl⟩ := Int.eq_ofNat_of_zero_le h2.1
    simp only [Int.toNat_natCast]
    unfold cmpv
    by_cases c1 : x < y
    · have : p * x + p ≤ p * y := by rw [← Nat.mul_succ]; exact Nat.mul_le_mul_left _ c1
      rw [if_pos (by omega), if_pos (by omega)]
    · by_cases c2 : y < x
      · have : p * y + p ≤ p * x := by rw [← Nat.mul_succ]; exact Nat.mul_le_mul_left _ c2
        rw [if_neg (by omega), if_pos (by omega), if_neg (by omega), if_pos (by omega)]
      · obtain rfl : x = y := by omega
        rw [if_neg (by omega), if_neg (by omega)]
        by_cases d1 : u < v
        · rw [if_pos d1, if_pos (by omega)]
        · by_cases d2 : v < u
          · rw [if_neg d1, if_pos d2, if_neg (by omega), if_pos (by omega)]
          · rw [if_neg d1, if_neg d2, if_neg (by omega), if_neg (by omega)]
theorem take_max {a : List Int} {n m : Nat} (h : a.length = n) (hm : n ≤ m) : a.take m = a := List.take_of_length_le (by omega)

def nat_Cmp.f (l0 l1 : List Int) : Option Int := if inb l0 = true ∧ inb l1 = true then some (cmpv (val W l0) (val W l1)) else none

set_option maxRecDepth 100000 in
set_option maxHeartbeats 1000000 in
theorem nat_cmp (Aa Ab : Option Addr) (na nb ca cb : Nat) (a b : List Int) (w : World) (ha : Rd w Aa na a) (hb : Rd w Ab nb b) (hia : InB Num.W a) (hib : InB Num.W b) :
    Calls Try.prog 36 #[.slice Aa na ca, .slice Ab nb cb] w fun e w' => e = .returned (.int .i64 (cmpv (val Num.W a) (val Num.W b))) ∧ Below w.heap.size w w' := by
  refine (callsIn_wide (n := 6)).1 ?_
  refine callsIn_of_wp_marks Try.func36 rfl trivial ?_ rfl
  simp only [Try.ntmps36, List.size_toArray, List.length_cons, List.length_nil, Nat.reduceAdd, Nat.reduceSub, Array.replicate_succ, Array.replicate_zero, List.push_toArray, List.append_toArray, List.nil_append, List.cons_append]
  have HA := Aside0.mk ha
  have HB := Aside0.mk hb
  clear ha hb
  gi_wp2_with ((refine ⟨trivial, ?_⟩); gi_at_call 46; refine (callsIn_wide.2 (pairs_in _ _ _ _ _ _ _)).mono ?_; rintro e w' ⟨rfl, rfl⟩)
  have bR := Boxed.new w 3 (.int .i64 0)
  have hBa : (((w.alloc (.cells #[.int .i64 0] 3)).alloc (.cells #[.slice Aa na ca] 22)).alloc (.cells #[.slice Ab nb cb] 22)).heap[w.heap.size + 1]? = some (.cells #[.slice Aa na ca] 22 (0, 0)) := by
    have := blk_new (w.alloc (.cells #[.int .i64 0] 3)) (.cells #[.slice Aa na ca] 22)
    rw [World.size_alloc] at this
    exact blk_alloc this _
  have hBb : (((w.alloc (.cells #[.int .i64 0] 3)).alloc (.cells #[.slice Aa na ca] 22)).alloc (.cells #[.slice Ab nb cb] 22)).heap[w.heap.size + 1 + 1]? = some (.cells #[.slice Ab nb cb] 22 (0, 0)) := by
    have := blk_new ((w.alloc (.cells #[.int .i64 0] 3)).alloc (.cells #[.slice Aa na ca] 22)) (.cells #[.slice Ab nb cb] 22)
    rw [World.size_alloc, World.size_alloc] at this
    exact this
  have hB0 : Below w.heap.size w (((w.alloc (.cells #[.int .i64 0] 3)).alloc (.cells #[.slice Aa na ca] 22)).alloc (.cells #[.slice Ab nb cb] 22)) := below_alloc (below_alloc (below_alloc (Below.refl _ _) _) _) _
  have hla := HA.out.1
  have hlb := HB.out.1
  refine wpIn_rangeFunc_ownG rfl (by omega) (gf := 57) (lb := #[.pointer (some ⟨w.heap.size + 1, 0, none⟩), .pointer (some ⟨w.heap.size + 1 + 1, 0, none⟩)]) rfl trivial (enters_of Try.func57 (by kernel_rfl) rfl)
    (pairs_stops 5 (by omega) (w.heap.size + 1) (w.heap.size + 1 + 1) w.heap.size na nb ca cb Aa Ab a b hia hib _ hBa hBb (by simp; omega) (HA.out.toB.keep hB0) (HB.out.toB.keep hB0))
    KeepB.trans (keepB_b (by simp; omega) (by simp) (by simp)) (Below.refl _ _) (fun _ => rfl)
    (fun pre W => (W.cell? ⟨w.heap.size, 0, none⟩ = some (.int .i64 (cmpF pre)) ∧ W.frozen? ⟨w.heap.size, 0, none⟩ = false) ∧ Below w.heap.size w W)
    (fun _ _ _ => False)
    (OwnFrom.and (Own.from (fun s A B row hs hg hr => ⟨cell_kept hs.1 hg hr, (frozen_kept hs.1 hg hr).trans hs.2⟩) _) (ownFrom_below (Nat.le_refl _) (by simp; omega)))
    (fun _ _ _ _ _ hs _ _ => hs)
    ⟨⟨((bR.alloc _).alloc _).cell, ((bR.alloc _).alloc _).frozen⟩, hB0⟩
    ?a1 ?assign ?body ?done ?stop
  case assign =>
    intro l x W K hK
    gi_wp2
    exact hK
  case body =>
    rintro l pre x W ⟨⟨hc, hf⟩, hB⟩ _
    have HBW := Aside0.mk hB
    clear hB
    have keep : ∀ v : Int, KeepB w.heap.size (w.heap.size + 1) (w.heap.size + 1 + 1) W (W.setCell ⟨w.heap.size, 0, none⟩ (.int .i64 v)) := fun v =>
      ⟨(Below.refl _ _).setCell (p := ⟨w.heap.size, 0, none⟩) (Nat.le_refl _) _, Below.heap_setCell _ _ _ _ (by simp), Below.heap_setCell _ _ _ _ (by simp; omega)⟩
    have HF := Aside0.mk keep
    clear keep
    gi_wp2
    · have hx : x.1.1 < x.1.2 := by assumption
      exact ⟨(KeepsOthers.setCell _ _ _).from _, HF.out _, ⟨by rw [cmpF_snoc, if_pos hx]; exact World.cell?_setCell_same' _ _ _ (by rw [hc]; rfl), by rw [World.frozen?_setCell]; exact hf⟩, HBW.out.setCell (p := ⟨w.heap.size, 0, none⟩) (Nat.le_refl _) _⟩
    · have hx : x.1.2 < x.1.1 := by assumption
      exact ⟨(KeepsOthers.setCell _ _ _).from _, HF.out _, ⟨by rw [cmpF_snoc, if_neg (by omega), if_pos hx]; exact World.cell?_setCell_same' _ _ _ (by rw [hc]; rfl), by rw [World.frozen?_setCell]; exact hf⟩, HBW.out.setCell (p := ⟨w.heap.size, 0, none⟩) (Nat.le_refl _) _⟩
    · have hx : x.1.2 ≤ x.1.1 := by assumption
      have hy : x.1.1 ≤ x.1.2 := by assumption
      exact ⟨KeepsFrom.refl _ _, KeepB.refl _ _ _ _, ⟨by rw [cmpF_snoc, if_neg (by omega), if_neg (by omega)]; exact hc, hf⟩, HBW.out⟩
  case done =>
    rintro D ys W hD rfl ⟨⟨hc, _⟩, hB⟩ hK
    have e : cmpF (upto (pairAt hia hib) (max na nb)) = cmpv (val Num.W a) (val Num.W b) := by
      rw [cmpF_upto hia hib, take_max hla (Nat.le_max_left _ _), take_max hlb (Nat.le_max_right _ _)]
    rw [e] at hc
    have HBW := Aside0.mk hB
    have HD := Aside0.mk hD
    have HK := Aside0.mk hK
    clear hB hD e hK
    gi_wp2
    refine ⟨by simp, .inl ⟨_, _, rfl, run_takeDeferred HK.out, ?_⟩⟩
    exact ⟨_, results_tmp rfl _ _ _, rfl, HBW.out.trans (belowK_b (w := w) (Nat.le_refl _) W D _ _ (by have := HD.out; simp at this; omega) HK.out rfl rfl)⟩
  case stop =>
    rintro D c pre W _ _ h _
    exact h.elim

theorem nat_Cmp.calls (A0 : Option Addr) (c0 : Nat) (l0 : List Int) (A1 : Option Addr) (c1 : Nat) (l1 : List Int) (r : Int) (w : World)
    (hr0 : Kd.C (Kd.int .u64) w A0 l0.length l0) (_hc0 : l0.length ≤ c0) (hr1 : Kd.C (Kd.int .u64) w A1 l1.length l1) (_hc1 : l1.length ≤ c1) (h : nat_Cmp.f l0 l1 = some r) :
    Calls Try.prog 36 #[.slice A0 l0.length c0, .slice A1 l1.length c1] w fun e w' => e = .returned (.int .i64 r) ∧ Below w.heap.size w w' := by
  unfold nat_Cmp.f at h
  split at h
  · rename_i hi
    cases h
    exact nat_cmp A0 A1 _ _ c0 c1 l0 l1 w (Rd.of_C hr0) (Rd.of_C hr1) (inb_iff.1 hi.1) (inb_iff.1 hi.2)
  · cases h
end Go.Proofs.Ytcgcffnhlafneaa.Hand

/- nat.Add by hand: a sum: the row of the sum of the values; new memory alone is written. Conditions: words, not too many. -/
namespace Go.Proofs.Ytcgcffnhlafneaa.Hand
open Go.RowKit Go.Proofs.YtcgcffnhlafneaaW.PrintWords Go.Proofs.YtcgcffnhlafneaaW.PrintMore Go.Proofs.Ytcgcffnhlafneaa.Num
set_option linter.unusedVariables false
set_option linter.unusedSimpArgs false
attribute [local go_sem] Oper.semAt_some max2_int min2_int max_two min_two

def fsts (l : List WW) : List Int := l.map fun p => p.1.1
def snds (l : List WW) : List Int := l.map fun p => p.1.2
theorem val_snoc (B : Nat) (l : List Int) (x : Int) : val B (l ++ [x]) = val B l + B ^ l.length * x.toNat := by rw [val_append]; simp [val]
theorem val_fsts {a b : List Int} (hia : InB W a) (hib : InB W b) : ∀ k, val W (fsts (upto (pairAt hia hib) k)) = val W (a.take k)
  | 0 => by simp [upto, fsts, val]
  | k + 1 => by
    have ih := val_fsts hia hib k
    have e : fsts (upto (pairAt hia hib) (k + 1)) = fsts (upto (pairAt hia hib) k) ++ [a[k]?.getD 0] := by rw [upto_succ]; simp [fsts, pairAt]
    rw [e, val_snoc, ih, val_take_succ, List.getD_eq_getElem?_getD]
    simp [fsts, upto]
theorem val_snds {a b : List Int} (hia : InB W a) (hib : InB W b) : ∀ k, val W (snds (upto (pairAt hia hib) k)) = val W (b.take k)
  | 0 => by simp [upto, snds, val]
  | k + 1 => by
    have ih := val_snds hia hib k
    have e : snds (upto (pairAt hia hib) (k + 1)) = snds (upto (pairAt hia hib) k) ++ [b[k]?.getD 0] := by rw [upto_succ]; simp [snds, pairAt]
    rw [e, val_snoc, ih, val_take_succ, List.getD_eq_getElem?_getD]
    simp [snds, upto]
/-- What has been made of the pairs that have come: the sum's words, and what is carried. -/
structure AddInv (pre : List WW) (out : List Int) (c : Int) : Prop where
  len : out.length = pre.length
  inb : InB W out
  c0 : 0 ≤ c
  c1 : c ≤ 1
  val : val W out + W ^ pre.length * c.toNat = val W (fsts pre) + val W (snds pre)
theorem AddInv.nil : AddInv [] [] 0 := ⟨rfl, inB_nil _, by omega, by omega, by simp [fsts, snds, Num.val]⟩
theorem wd_inb {x : Int} (h : Wd x) : 0 ≤ x ∧ x < ((W : Nat) : Int) := h
theorem AddInv.snoc {pre : List WW} {out : List Int} {c : Int} (h : AddInv pre out c) (x : WW) : AddInv (pre ++ [x]) (out ++ [sumLo x.1.1 x.1.2 c]) (sumHi x.1.1 x.1.2 c) := by
  have hs := sum_eq x.1.1 x.1.2 c
  have hw := sumLo_wd x.1.1 x.1.2 c
  have hh := sumHi_le x.2.1 x.2.2 h.c0 h.c1
  have h1 := x.2.1
  have h2 := x.2.2
  refine ⟨by simp [h.len], inB_append.2 ⟨h.inb, inB_cons.2 ⟨wd_inb hw, inB_nil _⟩⟩, hh.1, hh.2, ?_⟩
  have e1 : fsts (pre ++ [x]) = fsts pre ++ [x.1.1] := by simp [fsts]
  have e2 : snds (pre ++ [x]) = snds pre ++ [x.1.2] := by simp [snds]
  have l1 : (fsts pre).length = pre.length := by simp [fsts]
  have l2 : (snds pre).length = pre.length := by simp [snds]
  rw [e1, e2, val_snoc, val_snoc, val_snoc, h.len, l1, l2, List.length_append, List.length_singleton, Nat.pow_succ]
  have hv := h.val
  generalize sumLo x.1.1 x.1.2 c = s at *
  generalize sumHi x.1.1 x.1.2 c = t at *
  generalize x.1.1 = u at *
  generalize x.1.2 = v at *
  generalize Num.val W (fsts pre) = A at *
  generalize Num.val W (snds pre) = B at *
  generalize Num.val W out = O at *
  generalize W ^ pre.length = p at *
  obtain ⟨c0, c1⟩ : 0 ≤ c ∧ c ≤ 1 := ⟨h.c0, h.c1⟩
  obtain ⟨s, rfl⟩ := Int.eq_ofNat_of_zero_le hw.1
  obtain ⟨t, rfl⟩ := Int.eq_ofNat_of_zero_le hh.1
  obtain ⟨u, rfl⟩ := Int.eq_ofNat_of_zero_le h1.1
  obtain ⟨v, rfl⟩ := Int.eq_ofNat_of_zero_le h2.1
  obtain ⟨c, rfl⟩ := Int.eq_ofNat_of_zero_le c0
  simp only [Int.toNat_natCast] at *
  have hs' : s + W * t = u + v + c := by rw [W_eq]; omega
  clear hs hw hh h1 h2 c0 c1 h
  have : p * s + p * W * t = p * u + p * v + p * c := by rw [Nat.mul_assoc, ← Nat.mul_add, hs', Nat.mul_add, Nat.mul_add]
  omega

/-- How the call's own memory stands, k words having been made: the row (block B), the variable out (B + 1), the variable c (B + 1 + 1). -/
structure Own3 (B cap : Nat) (c : Value) (k : Nat) (out : List Int) (W : World) : Prop where
  bo : Boxed W (B + 1) 22 (.slice (some ⟨B, 0, none⟩) k cap)
  bc : Boxed W (B + 1 + 1) 39 c
  row : W.ownsRow B 39 1 (.slice (some ⟨B, 0, none⟩) k cap) k (nums .u64 out)
theorem Own3.grown {B cap k : Nat} {c : Value} {out : List Int} {W W' : World} {row : Option Nat} (h : Own3 B cap c k out W) (hg : W.grownBy W' row) (h0 : some B ≠ row) (h1 : some (B + 1) ≠ row) (h2 : some (B + 1 + 1) ≠ row) : Own3 B cap c k out W' :=
  ⟨h.bo.kept hg h1, h.bc.kept hg h2, h.row.kept hg (.inr h0)⟩
theorem Own3.other {B cap k : Nat} {c : Value} {out : List Int} {W W' : World} {row : Option Nat} (h : Own3 B cap c k out W) (hg : W.grownBy W' row) (hr : ∀ r, row = some r → ∃ o : Obj, W.heap[r]? = some o ∧ o.isCells = false) : Own3 B cap c k out W' := by
  refine h.grown hg ?_ ?_ ?_
  · intro e
    obtain ⟨o, ho, hc⟩ := hr _ e.symm
    obtain ⟨g, cap', cur, hv, _, hgb, _⟩ := (h.row.2).resolve_left (fun z => by cases z.1)
    have : g = B := by injection hv with hv; injection hv with hv; injection hv with hv; exact hv.symm
    subst this
    rw [hgb] at ho; cases ho; cases hc
  · intro e
    obtain ⟨o, ho, hc⟩ := hr _ e.symm
    rw [show W.heap[B + 1]? = _ from h.bo] at ho; cases ho; cases hc
  · intro e
    obtain ⟨o, ho, hc⟩ := hr _ e.symm
    rw [show W.heap[B + 1 + 1]? = _ from h.bc] at ho; cases ho; cases hc
/-- Behind an append of one word in place, and the two stores. -/
theorem Own3.step {B cap k : Nat} {c c' : Value} {out : List Int} {s : Int} {W w1 : World} {o : Obj} (h : Own3 B cap c k out W)
    (hr : w1.ownsRow B 39 1 (.slice (some ⟨B, 0, none⟩) (k + 1) cap) (k + 1) (nums .u64 out ++ [.int .u64 s])) (hg : (W.alloc o).grownBy w1 (some B)) :
    Own3 B cap c' (k + 1) (out ++ [s]) ((w1.setCell ⟨B + 1, 0, none⟩ (.slice (some ⟨B, 0, none⟩) (k + 1) cap)).setCell ⟨B + 1 + 1, 0, none⟩ c') := by
  have b1 : Boxed w1 (B + 1) _ _ := (h.bo.alloc o).kept hg (by simp)
  have b2 : Boxed w1 (B + 1 + 1) _ _ := (h.bc.alloc o).kept hg (by simp; omega)
  refine ⟨(b1.set _).kept (grownBy_setCell' _ _ _) (by simp), (b2.kept (grownBy_setCell' _ _ _) (by simp)).set _, ?_⟩
  have e : nums .u64 (out ++ [s]) = nums .u64 out ++ [.int .u64 s] := by simp [nums]
  rw [e]
  exact (hr.kept (grownBy_setCell' _ _ _) (.inr (by simp [Value.ownBlock]))).kept (grownBy_setCell' _ _ _) (.inr (by simp [Value.ownBlock]; omega))
theorem keepB_step {B k cap : Nat} {c' : Value} {W w1 : World} {o : Obj} (hs : B + 5 ≤ W.heap.size) (hg : (W.alloc o).grownBy w1 (some B)) :
    KeepB B (B + 1 + 1 + 1) (B + 1 + 1 + 1 + 1) W ((w1.setCell ⟨B + 1, 0, none⟩ (.slice (some ⟨B, 0, none⟩) k cap)).setCell ⟨B + 1 + 1, 0, none⟩ c') := by
  have old : ∀ j, j < W.heap.size → j ≠ B → j ≠ B + 1 → j ≠ B + 1 + 1 → ((w1.setCell ⟨B + 1, 0, none⟩ (.slice (some ⟨B, 0, none⟩) k cap)).setCell ⟨B + 1 + 1, 0, none⟩ c').heap[j]? = W.heap[j]? := by
    intro j hj h0 h1 h2
    rw [Below.heap_setCell _ _ _ _ (by simpa using h2), Below.heap_setCell _ _ _ _ (by simpa using h1), hg.block j (by simp; omega) (by simpa using h0), Below.heap_alloc _ _ _ hj]
  exact ⟨⟨hg.os, hg.tape, hg.output, by have := hg.size; simp [World.setCell] at this ⊢; omega, fun j hj => old j (by omega) (by omega) (by omega) (by omega)⟩, old _ (by omega) (by omega) (by omega) (by omega), old _ (by omega) (by omega) (by omega) (by omega)⟩
theorem keepsOthers_step {B k cap : Nat} {c c' : Value} {out : List Int} {W w1 : World} {o : Obj} (h : Own3 B cap c k out W) (hg : (W.alloc o).grownBy w1 (some B)) :
    KeepsOthers W ((w1.setCell ⟨B + 1, 0, none⟩ (.slice (some ⟨B, 0, none⟩) (k + 1) cap)).setCell ⟨B + 1 + 1, 0, none⟩ c') := by
  refine (((KeepsOthers.alloc W o).trans (KeepsOthers.of_grownBy hg fun j o' ej hj => ?_)).trans (KeepsOthers.setCell _ _ _)).trans (KeepsOthers.setCell _ _ _)
  cases ej
  obtain ⟨g, cap', cur, hv, _, hgb, _⟩ := (h.row.2).resolve_left (fun z => by cases z.1)
  have : g = B := by injection hv with hv; injection hv with hv; injection hv with hv; exact hv.symm
  subst this
  rw [Below.heap_alloc _ _ _ (Array.getElem?_eq_some_iff.1 hgb).1, hgb] at hj
  cases hj; rfl

theorem size_step {B k cap : Nat} {c' : Value} {W w1 : World} {o : Obj} (hs : B + 5 ≤ W.heap.size) (hg : (W.alloc o).grownBy w1 (some B)) :
    B + 5 ≤ ((w1.setCell ⟨B + 1, 0, none⟩ (.slice (some ⟨B, 0, none⟩) k cap)).setCell ⟨B + 1 + 1, 0, none⟩ c').heap.size := Nat.le_trans hs (keepB_step hs hg).below.size
theorem below_step {k cap : Nat} {c' : Value} {w0 W w1 : World} {o : Obj} (h : Below w0.heap.size w0 W) (hg : (W.alloc o).grownBy w1 (some w0.heap.size)) :
    Below w0.heap.size w0 ((w1.setCell ⟨w0.heap.size + 1, 0, none⟩ (.slice (some ⟨w0.heap.size, 0, none⟩) k cap)).setCell ⟨w0.heap.size + 1 + 1, 0, none⟩ c') :=
  ((below_alloc h o).grown hg (by have := h.size; simp; omega) (fun k e => by cases e; exact Nat.le_refl _)).setCell (p := ⟨w0.heap.size + 1, 0, none⟩) (by simp) _ |>.setCell (p := ⟨w0.heap.size + 1 + 1, 0, none⟩) (by simp; omega) _

theorem run_make_cap (m : Nat) (hm : m * 8 ≤ 281474976710656) (W : World) :
    (Instr.makeSlice 22 (.int .i64 0) (.int .i64 (m : Int))).run Try.prog W = .ok (.slice (some ⟨W.heap.size, 0, none⟩) 0 m) (W.alloc (.cells (madeCells #[.int .u64 0] m) 39)) := by
  obtain ⟨i, hi, hi2⟩ := Option.map_eq_some_iff.1 info64
  simp only [Prod.mk.injEq] at hi2
  have h := run_make (P := Try.prog) W 22 39 i (.int .u64 0) Try.underlying22 hi hi2.1 .i64 .i64 0 m (Int.le_refl _) (by omega) (by rw [hi2.2.2]; omega) (by omega)
  rw [hi2.2.1, Nat.mul_one, Int.toNat_natCast] at h
  exact h
theorem own3_made (W : World) (m : Nat) (hm : m ≤ maxLen) :
    Own3 W.heap.size m (.int .u64 0) 0 [] (((W.alloc (.cells (madeCells #[.int .u64 0] m) 39)).alloc (.cells #[.slice (some ⟨W.heap.size, 0, none⟩) 0 m] 22)).alloc (.cells #[.int .u64 0] 39)) := by
  have r := World.ownsRow_made (base := W.heap.size) (e := 39) (size := 1) W (madeCells #[.int .u64 0] m) m (Nat.le_refl _) hm (by rw [size_madeCells, Nat.mul_one])
  have b1 := Boxed.new (W.alloc (.cells (madeCells #[.int .u64 0] m) 39)) 22 (.slice (some ⟨W.heap.size, 0, none⟩) 0 m)
  have b2 := Boxed.new ((W.alloc (.cells (madeCells #[.int .u64 0] m) 39)).alloc (.cells #[.slice (some ⟨W.heap.size, 0, none⟩) 0 m] 22)) 39 (.int .u64 0)
  rw [World.size_alloc] at b1
  rw [World.size_alloc, World.size_alloc] at b2
  exact ⟨b1.alloc _, b2, (r.alloc _).alloc _⟩

/-- What a call that hands back new words leaves. -/
def NewPost (r : List Int) (w : World) (e : Ending) (w' : World) : Prop := ∃ v : Value, e = .returned v ∧ Vw w' w.heap.size (fun k => w.heap.size ≤ k) v r ∧ Below w.heap.size w w'
theorem Rd.kept {w w' : World} {A : Option Addr} {n : Nat} {l : List Int} (h : Rd w A n l) (hb : ∀ ad, A = some ad → w'.heap[ad.block]? = w.heap[ad.block]?) : Rd w' A n l := by
  have hl : l.length = n := h.1
  subst hl
  exact Rd.of_C (h.foot (ok := fun k => w'.heap[k]? = w.heap[k]?) (fun ad e _ => hb ad e) w' (fun k hk _ => hk))
/-- The end of a call that hands back its own row, cut short, behind a loop over a function. -/
theorem newPost_done {w W w1 : World} {B m k D : Nat} {l r : List Int} {o : Obj} (hB : B = w.heap.size) (hbl : Below w.heap.size w W) (hsz : B + 5 ≤ W.heap.size) (hg : (W.alloc o).grownBy w1 (some B)) (hr : Rd w1 (some ⟨B, 0, none⟩) m l) (hk : k ≤ m) (he : l.take k = r)
    (hD : B + 1 ≤ D) (hDW : W.heap[D]? = some (.deferred (some []))) :
    w1.heap[D]? = some (.deferred (some [])) ∧ NewPost r w (.returned (.slice (some ⟨B, 0, none⟩) k k)) (w1.putObj D (.deferred none)) := by
  have hDs : D < W.heap.size := (Array.getElem?_eq_some_iff.1 hDW).1
  have h1 : w1.heap[D]? = some (.deferred (some [])) := by rw [hg.block D (by simp; omega) (by simp; omega), Below.heap_alloc _ _ _ hDs, hDW]
  have hs1 := hg.size
  rw [World.size_alloc] at hs1
  refine ⟨h1, _, rfl, Vw.of_Rd (l := r) (n := k) ?_ (Nat.le_refl _) ?_, ?_⟩
  · rw [← he]
    exact (hr.take k hk).kept (fun ad e => by cases e; exact World.putObj_heap_other (by simp; omega))
  · intro ad e _; cases e; simp [hB]
  · exact (((below_alloc hbl o).grown hg (by have := hbl.size; simp; omega) (fun k e => by cases e; omega))).trans (belowK_b (w := w) (Nat.le_refl _) w1 D _ _ (by omega) h1 rfl rfl)
theorem nat_norm' (A : Option Addr) (n c : Nat) (l : List Int) (w : World) (hr : Rd w A n l) (hc : n ≤ c) (hb : InB Num.W l) :
    Calls Try.prog 41 #[.slice A n c] w (NormPost A l w) := by
  have hl : l.length = n := hr.1
  subst hl
  exact nat_norm A c l w hr hc hb


set_option maxRecDepth 100000 in
set_option maxHeartbeats 2000000 in
theorem nat_add (Aa Ab : Option Addr) (na nb ca cb : Nat) (a b : List Int) (w : World) (ha : Rd w Aa na a) (hb : Rd w Ab nb b) (hia : InB Num.W a) (hib : InB Num.W b) (hna : na ≤ 17592186044400) (hnb : nb ≤ 17592186044400) :
    Calls Try.prog 27 #[.slice Aa na ca, .slice Ab nb cb] w (NewPost (dig Num.W (val Num.W a + val Num.W b)) w) := by
  obtain ⟨i0, hi, hi2⟩ := Option.map_eq_some_iff.1 info64
  simp only [Prod.mk.injEq] at hi2
  obtain ⟨hz0, hz1, hz2⟩ := hi2
  obtain ⟨m, hm⟩ : ∃ m, m = max na nb := ⟨_, rfl⟩
  have hmx2 : (if na < nb then ((nb : Nat) : Int) else ((na : Nat) : Int)) = ((m : Nat) : Int) := by rw [hm]; split <;> omega
  have hmx : (if ((na : Nat) : Int) < ((nb : Nat) : Int) then ((nb : Nat) : Int) else ((na : Nat) : Int)) = ((m : Nat) : Int) := by rw [hm]; split <;> omega
  have hml : m ≤ 17592186044400 := by omega
  have hmk := fun W => run_make_cap (m + 1) (by omega) W
  have hmk' : ∀ W : World, (Instr.makeSlice 22 (.int .i64 0) (.int .i64 ((m : Int) + 1))).run Try.prog W = .ok (.slice (some ⟨W.heap.size, 0, none⟩) 0 (m + 1)) (W.alloc (.cells (madeCells #[.int .u64 0] (m + 1)) 39)) := hmk
  have HM := Aside0.mk hm
  have HA := Aside0.mk ha
  have HB := Aside0.mk hb
  clear ha hb hm hmk
  refine (callsIn_wide (n := 6)).1 ?_
  refine callsIn_of_wp_marks Try.func27 rfl trivial ?_ rfl
  simp only [Try.ntmps27, List.size_toArray, List.length_cons, List.length_nil, Nat.reduceAdd, Nat.reduceSub, Array.replicate_succ, Array.replicate_zero, List.push_toArray, List.append_toArray, List.nil_append, List.cons_append]
  gi_wp2_with ((refine ⟨trivial, ?_⟩); gi_at_call 46; refine (callsIn_wide.2 (pairs_in _ _ _ _ _ _ _)).mono ?_; rintro e w' ⟨rfl, rfl⟩)
  have hO0 := own3_made w (m + 1) (by unfold maxLen; omega)
  have hBa : (((((w.alloc (.cells (madeCells #[.int .u64 0] (m + 1)) 39)).alloc (.cells #[.slice (some ⟨w.heap.size, 0, none⟩) 0 (m + 1)] 22)).alloc (.cells #[.int .u64 0] 39)).alloc (.cells #[.slice Aa na ca] 22)).alloc (.cells #[.slice Ab nb cb] 22)).heap[w.heap.size + 1 + 1 + 1]? = some (.cells #[.slice Aa na ca] 22 (0, 0)) := by
    have := blk_new (((w.alloc (.cells (madeCells #[.int .u64 0] (m + 1)) 39)).alloc (.cells #[.slice (some ⟨w.heap.size, 0, none⟩) 0 (m + 1)] 22)).alloc (.cells #[.int .u64 0] 39)) (.cells #[.slice Aa na ca] 22)
    rw [World.size_alloc, World.size_alloc, World.size_alloc] at this
    exact blk_alloc this _
  have hBb : (((((w.alloc (.cells (madeCells #[.int .u64 0] (m + 1)) 39)).alloc (.cells #[.slice (some ⟨w.heap.size, 0, none⟩) 0 (m + 1)] 22)).alloc (.cells #[.int .u64 0] 39)).alloc (.cells #[.slice Aa na ca] 22)).alloc (.cells #[.slice Ab nb cb] 22)).heap[w.heap.size + 1 + 1 + 1 + 1]? = some (.cells #[.slice Ab nb cb] 22 (0, 0)) := by
    have := blk_new ((((w.alloc (.cells (madeCells #[.int .u64 0] (m + 1)) 39)).alloc (.cells #[.slice (some ⟨w.heap.size, 0, none⟩) 0 (m + 1)] 22)).alloc (.cells #[.int .u64 0] 39)).alloc (.cells #[.slice Aa na ca] 22)) (.cells #[.slice Ab nb cb] 22)
    rw [World.size_alloc, World.size_alloc, World.size_alloc, World.size_alloc] at this
    exact this
  have hB0 : Below w.heap.size w (((((w.alloc (.cells (madeCells #[.int .u64 0] (m + 1)) 39)).alloc (.cells #[.slice (some ⟨w.heap.size, 0, none⟩) 0 (m + 1)] 22)).alloc (.cells #[.int .u64 0] 39)).alloc (.cells #[.slice Aa na ca] 22)).alloc (.cells #[.slice Ab nb cb] 22)) := below_alloc (below_alloc (below_alloc (below_alloc (below_alloc (Below.refl _ _) _) _) _) _) _
  have hO1 := (hO0.grown (World.grownBy_alloc _ (.cells #[.slice Aa na ca] 22) none) (by simp) (by simp) (by simp)).grown (World.grownBy_alloc _ (.cells #[.slice Ab nb cb] 22) none) (by simp) (by simp) (by simp)
  refine wpIn_rangeFunc_ownG rfl (by omega) (gf := 57) (lb := #[.pointer (some ⟨w.heap.size + 1 + 1 + 1, 0, none⟩), .pointer (some ⟨w.heap.size + 1 + 1 + 1 + 1, 0, none⟩)]) rfl trivial (enters_of Try.func57 (by kernel_rfl) rfl)
    (pairs_stops 5 (by omega) (w.heap.size + 1 + 1 + 1) (w.heap.size + 1 + 1 + 1 + 1) w.heap.size na nb ca cb Aa Ab a b hia hib _ hBa hBb (by simp; omega) (HA.out.toB.keep hB0) (HB.out.toB.keep hB0))
    KeepB.trans (keepB_b (by simp; omega) (by simp) (by simp)) (Below.refl _ _) (fun _ => rfl)
    (fun pre W => ((∃ out c, Own3 w.heap.size (m + 1) (.int .u64 c) pre.length out W ∧ AddInv pre out c) ∧ w.heap.size + 5 ≤ W.heap.size) ∧ Below w.heap.size w W)
    (fun _ _ _ => False)
    (OwnFrom.and (Own.from (fun s A B row hs hg hr => by
      obtain ⟨⟨out, c, ho, hi⟩, hz⟩ := hs
      exact ⟨⟨out, c, ho.other hg hr, hi⟩, Nat.le_trans hz hg.size⟩) _) (ownFrom_below (Nat.le_refl _) (by simp; omega)))
    (fun _ _ _ _ _ hs _ _ => hs)
    ⟨⟨⟨[], 0, hO1, AddInv.nil⟩, by simp⟩, hB0⟩
    ?a1 ?assign ?body ?done ?stop
  case assign =>
    intro l x W K hK
    gi_wp2
    exact hK
  case body =>
    rintro l pre x W ⟨⟨⟨out, c, hO, hI⟩, hz⟩, hB⟩ hlt
    have hx := x.2.1
    have hy := x.2.2
    have c0 := hI.c0
    have c1 := hI.c1
    have qo := hO.bo.cell
    have qc := hO.bc.cell
    have HO := Aside0.mk hO
    have HI := Aside0.mk hI
    have HBW := Aside0.mk hB
    have HZ := Aside0.mk hz
    clear hO hI hB hz
    have hd : 1 ≤ 6 - 1 - 1 := by omega
    have hle : pre.length + 1 ≤ m + 1 := by have := HM.out; omega
    have HLT := Aside0.mk hlt
    clear hlt
    gi_wp2_with (first | (gi_at_builtin; refine wpListIn_append_fits _ rfl _ _ 22 rfl w.heap.size 39 i0 1 Try.underlying22 hi hz1 w.heap.size pre.length (m + 1) _ rfl (HO.out.row.alloc _) ⟨W.heap.size, 0, none⟩ 1 1 [.int .u64 (sumLo x.1.1 x.1.2 c)] rfl rfl (cell_one_new _ _ _) (by simp [Value.oneCell']) hle ?_; intro w1 hown1 hgrow1; have b1 := (HO.out.bo.alloc _).kept hgrow1 (by simp); have b2 := (HO.out.bc.alloc _).kept hgrow1 (by simp; omega); have q1 := b1.cell; have q2 := b2.cell; have f1 := b1.frozen; have f2 := b2.frozen; have HOW := Aside0.mk hown1; have HGR := Aside0.mk hgrow1; clear hown1 hgrow1 b1 b2) | ((refine ⟨trivial, ?_⟩); (gi_at_call 47); (with_reducible refine (CallsIn.inRound l (callsIn_wide.2 (word_add _ _ _ hx hy c0 c1 _))).mono ?_); (rintro e w' ⟨rfl, rfl⟩)))
    exact ⟨(keepsOthers_step HO.out HGR.out).from _, keepB_step HZ.out HGR.out, ⟨⟨_, _, by rw [List.length_append]; exact HO.out.step HOW.out HGR.out, HI.out.snoc x⟩, size_step HZ.out HGR.out⟩, below_step HBW.out HGR.out⟩
  case done =>
    rintro D ys W hD rfl ⟨⟨⟨out, c, hO, hI⟩, hz⟩, hB⟩ hK
    have hln : (upto (pairAt hia hib) (max na nb)).length = m := by rw [upto_length]; exact HM.out.symm
    have c0 := hI.c0
    have c1 := hI.c1
    have hvl := hI.val
    rw [hln] at hO hvl
    have hol : out.length = m := by rw [hI.len, hln]
    rw [val_fsts hia hib, val_snds hia hib, take_max HA.out.1 (Nat.le_max_left _ _), take_max HB.out.1 (Nat.le_max_right _ _), ← hol, ← val_snoc] at hvl
    have HIB := Aside0.mk (inB_append.2 ⟨hI.inb, inB_cons.2 ⟨⟨c0, Int.lt_of_le_of_lt c1 (by decide)⟩, inB_nil _⟩⟩ : InB Num.W (out ++ [c]))
    have HVL := Aside0.mk hvl
    have HOL := Aside0.mk hol
    have qo := hO.bo.cell
    have qc := hO.bc.cell
    have HO := Aside0.mk hO
    have HBW := Aside0.mk hB
    have HZ := Aside0.mk hz
    have HD := Aside0.mk hD
    have HK := Aside0.mk hK
    clear hO hI hB hz hD hK hvl hol hln
    have hle : m + 1 ≤ m + 1 := Nat.le_refl _
    gi_wp2_with (first | (gi_at_builtin; refine wpListIn_append_fits _ rfl _ _ 22 rfl w.heap.size 39 i0 1 Try.underlying22 hi hz1 w.heap.size m (m + 1) _ rfl (HO.out.row.alloc _) ⟨W.heap.size, 0, none⟩ 1 1 [.int .u64 c] rfl rfl (cell_one_new _ _ _) (by simp [Value.oneCell']) hle ?_; intro w1 hown1 hgrow1; have hrd1 := own_reads' (k := .u64) (xs := out ++ [c]) (by simpa [nums] using hown1); have HRD := Aside0.mk hrd1; have HGR := Aside0.mk hgrow1; clear hown1 hgrow1 hrd1) | ((refine ⟨trivial, ?_⟩); (gi_at_call 41); (with_reducible refine (callsIn_wide.2 (nat_norm' _ (m + 1) (m + 1) (out ++ [c]) _ HRD.out (Nat.le_refl _) HIB.out)).mono ?_); (rintro e w' ⟨k, hk1, hk2, rfl, rfl⟩)))
    rw [HVL.out] at hk2
    have hfin := newPost_done (B := w.heap.size) rfl HBW.out HZ.out HGR.out HRD.out (by have := HRD.out.1; omega) hk2 (by have := HD.out; simp at this; omega) HK.out
    refine ⟨by simp, .inl ⟨_, _, rfl, run_takeDeferred hfin.1, ?_⟩⟩
    refine ⟨_, results_tmp rfl _ _ _, ?_⟩
    exact hfin.2
  case stop =>
    rintro D c pre W _ _ h _
    exact h.elim

theorem calls_of_new {f : Nat} {args : Array Value} {r : List Int} {w : World} (h : Calls Try.prog f args w (NewPost r w)) :
    Calls Try.prog f args w fun e w' => ∃ v0_ : Value, e = .returned (v0_) ∧ Kd.V (Kd.int .u64) 39 w' w.heap.size (fun k_ => (w.heap.size ≤ k_)) v0_ r ∧ Below w.heap.size w w' :=
  Calls.mono h fun _ _ h => h
def nat_Add.f (l0 l1 : List Int) : Option (List Int) := if inb l0 = true ∧ inb l1 = true ∧ l0.length ≤ LIM ∧ l1.length ≤ LIM then some (dig W (val W l0 + val W l1)) else none
theorem nat_Add.calls (A0 : Option Addr) (c0 : Nat) (l0 : List Int) (A1 : Option Addr) (c1 : Nat) (l1 : List Int) (r : List Int) (w : World)
    (hr0 : Kd.C (Kd.int .u64) w A0 l0.length l0) (_hc0 : l0.length ≤ c0) (hr1 : Kd.C (Kd.int .u64) w A1 l1.length l1) (_hc1 : l1.length ≤ c1) (h : nat_Add.f l0 l1 = some r) :
    Calls Try.prog 27 #[.slice A0 l0.length c0, .slice A1 l1.length c1] w fun e w' => ∃ v0_ : Value, e = .returned (v0_) ∧ Kd.V (Kd.int .u64) 39 w' w.heap.size (fun k_ => (w.heap.size ≤ k_)) v0_ r ∧ Below w.heap.size w w' := by
  unfold nat_Add.f at h
  split at h
  · rename_i hi
    cases h
    exact calls_of_new (nat_add A0 A1 _ _ c0 c1 l0 l1 w (Rd.of_C hr0) (Rd.of_C hr1) (inb_iff.1 hi.1) (inb_iff.1 hi.2.1) hi.2.2.1 hi.2.2.2)
  · cases h
end Go.Proofs.Ytcgcffnhlafneaa.Hand

/- nat.Sub by hand: a difference: the row of the difference of the values, or the error; new memory alone is written. Conditions: words, not too many. -/
namespace Go.Proofs.Ytcgcffnhlafneaa.Hand
open Go.RowKit Go.Proofs.YtcgcffnhlafneaaW.PrintWords Go.Proofs.YtcgcffnhlafneaaW.PrintMore Go.Proofs.Ytcgcffnhlafneaa.Num
set_option linter.unusedVariables false
set_option linter.unusedSimpArgs false
attribute [local go_sem] Oper.semAt_some max2_int min2_int max_two min_two

/-- What has been made of the pairs that have come: the difference's words, and what is borrowed. -/
structure SubInv (pre : List WW) (out : List Int) (c : Int) : Prop where
  len : out.length = pre.length
  inb : InB W out
  c0 : 0 ≤ c
  c1 : c ≤ 1
  val : val W out + val W (snds pre) = val W (fsts pre) + W ^ pre.length * c.toNat
theorem SubInv.nil : SubInv [] [] 0 := ⟨rfl, inB_nil _, by omega, by omega, by simp [fsts, snds, Num.val]⟩
theorem SubInv.snoc {pre : List WW} {out : List Int} {c : Int} (h : SubInv pre out c) (x : WW) : SubInv (pre ++ [x]) (out ++ [subLo x.1.1 x.1.2 c]) (subHi x.1.1 x.1.2 c) := by
  have hs := sub_eq x.2.1 x.2.2 h.c0 h.c1
  have hw := subLo_wd x.1.1 x.1.2 c
  have hh := subHi_le x.1.1 x.1.2 c
  have h1 := x.2.1
  have h2 := x.2.2
  refine ⟨by simp [h.len], inB_append.2 ⟨h.inb, inB_cons.2 ⟨wd_inb hw, inB_nil _⟩⟩, hh.1, hh.2, ?_⟩
  have e1 : fsts (pre ++ [x]) = fsts pre ++ [x.1.1] := by simp [fsts]
  have e2 : snds (pre ++ [x]) = snds pre ++ [x.1.2] := by simp [snds]
  have l1 : (fsts pre).length = pre.length := by simp [fsts]
  have l2 : (snds pre).length = pre.length := by simp [snds]
  rw [e1, e2, val_snoc, val_snoc, val_snoc, h.len, l1, l2, List.length_append, List.length_singleton, Nat.pow_succ]
  have hv := h.val
  generalize subLo x.1.1 x.1.2 c = s at *
  generalize subHi x.1.1 x.1.2 c = t at *
  generalize x.1.1 = u at *
  generalize x.1.2 = v at *
  generalize Num.val W (fsts pre) = A at *
  generalize Num.val W (snds pre) = B at *
  generalize Num.val W out = O at *
  generalize W ^ pre.length = p at *
  obtain ⟨c0, c1⟩ : 0 ≤ c ∧ c ≤ 1 := ⟨h.c0, h.c1⟩
  obtain ⟨s, rfl⟩ := Int.eq_ofNat_of_zero_le hw.1
  obtain ⟨t, rfl⟩ := Int.eq_ofNat_of_zero_le hh.1
  obtain ⟨u, rfl⟩ := Int.eq_ofNat_of_zero_le h1.1
  obtain ⟨v, rfl⟩ := Int.eq_ofNat_of_zero_le h2.1
  obtain ⟨c, rfl⟩ := Int.eq_ofNat_of_zero_le c0
  simp only [Int.toNat_natCast] at *
  have hs' : s + v + c = u + W * t := by rw [W_eq]; omega
  clear hs hw hh h1 h2 c0 c1 h
  have : p * s + p * v + p * c = p * u + p * W * t := by rw [Nat.mul_assoc, ← Nat.mul_add, ← Nat.mul_add, hs', Nat.mul_add]
  omega

/-- What a difference leaves. -/
def SubPost (x y : Nat) (w : World) (e : Ending) (w' : World) : Prop := (∃ v : Value, e = .returned (.tuple #[v, .int .i64 (if x < y then 3 else 0)]) ∧ Vw w' w.heap.size (fun k => w.heap.size ≤ k) v (if x < y then [] else dig Num.W (x - y))) ∧ Below w.heap.size w w'
theorem subPost_done {w W : World} {B m k D x y : Nat} {l : List Int} (hB : B = w.heap.size) (hbl : Below w.heap.size w W) (hsz : B + 5 ≤ W.heap.size) (hr : Rd W (some ⟨B, 0, none⟩) m l) (hk : k ≤ m) (hxy : ¬ x < y) (he : l.take k = dig Num.W (x - y))
    (hD : B + 1 ≤ D) (hDW : W.heap[D]? = some (.deferred (some []))) :
    SubPost x y w (.returned (.tuple #[.slice (some ⟨B, 0, none⟩) k k, .int .i64 0])) (W.putObj D (.deferred none)) := by
  have hDs : D < W.heap.size := (Array.getElem?_eq_some_iff.1 hDW).1
  unfold SubPost
  rw [if_neg hxy, if_neg hxy]
  refine ⟨⟨_, rfl, Vw.of_Rd (n := k) ?_ (Nat.le_refl _) ?_⟩, hbl.trans (belowK_b (w := w) (Nat.le_refl _) W D _ _ (by omega) hDW rfl rfl)⟩
  · rw [← he]
    exact (hr.take k hk).kept (fun ad e => by cases e; exact World.putObj_heap_other (by simp; omega))
  · intro ad e _; cases e; simp [hB]
theorem subPost_less {w W : World} {B D x y : Nat} (hB : B = w.heap.size) (hbl : Below w.heap.size w W) (hxy : x < y)
    (hD : B + 1 ≤ D) (hDW : W.heap[D]? = some (.deferred (some []))) :
    SubPost x y w (.returned (.tuple #[.slice none 0 0, .int .i64 3])) (W.putObj D (.deferred none)) := by
  unfold SubPost
  rw [if_pos hxy, if_pos hxy]
  exact ⟨⟨_, rfl, Vw.nil _ _ _⟩, hbl.trans (belowK_b (w := w) (Nat.le_refl _) W D _ _ (by omega) hDW rfl rfl)⟩

set_option maxRecDepth 100000 in
set_option maxHeartbeats 2000000 in
theorem nat_sub (Aa Ab : Option Addr) (na nb ca cb : Nat) (a b : List Int) (w : World) (ha : Rd w Aa na a) (hb : Rd w Ab nb b) (hia : InB Num.W a) (hib : InB Num.W b) (hna : na ≤ 17592186044400) (hnb : nb ≤ 17592186044400) :
    Calls Try.prog 34 #[.slice Aa na ca, .slice Ab nb cb] w (SubPost (val Num.W a) (val Num.W b) w) := by
  obtain ⟨i0, hi, hi2⟩ := Option.map_eq_some_iff.1 info64
  simp only [Prod.mk.injEq] at hi2
  obtain ⟨hz0, hz1, hz2⟩ := hi2
  obtain ⟨m, hm⟩ : ∃ m, m = max na nb := ⟨_, rfl⟩
  have hmx2 : (if na < nb then ((nb : Nat) : Int) else ((na : Nat) : Int)) = ((m : Nat) : Int) := by rw [hm]; split <;> omega
  have hmx : (if ((na : Nat) : Int) < ((nb : Nat) : Int) then ((nb : Nat) : Int) else ((na : Nat) : Int)) = ((m : Nat) : Int) := by rw [hm]; split <;> omega
  have hml : m ≤ 17592186044400 := by omega
  have hmk := fun W => run_make_cap m (by omega) W
  have hmk' : ∀ W : World, (Instr.makeSlice 22 (.int .i64 0) (.int .i64 (m : Int))).run Try.prog W = .ok (.slice (some ⟨W.heap.size, 0, none⟩) 0 m) (W.alloc (.cells (madeCells #[.int .u64 0] m) 39)) := hmk
  have HM := Aside0.mk hm
  have HA := Aside0.mk ha
  have HB := Aside0.mk hb
  clear ha hb hm hmk
  refine (callsIn_wide (n := 6)).1 ?_
  refine callsIn_of_wp_marks Try.func34 rfl trivial ?_ rfl
  simp only [Try.ntmps34, List.size_toArray, List.length_cons, List.length_nil, Nat.reduceAdd, Nat.reduceSub, Array.replicate_succ, Array.replicate_zero, List.push_toArray, List.append_toArray, List.nil_append, List.cons_append]
  gi_wp2_with ((refine ⟨trivial, ?_⟩); gi_at_call 46; refine (callsIn_wide.2 (pairs_in _ _ _ _ _ _ _)).mono ?_; rintro e w' ⟨rfl, rfl⟩)
  have hO0 := own3_made w m (by unfold maxLen; omega)
  have hBa : (((((w.alloc (.cells (madeCells #[.int .u64 0] m) 39)).alloc (.cells #[.slice (some ⟨w.heap.size, 0, none⟩) 0 m] 22)).alloc (.cells #[.int .u64 0] 39)).alloc (.cells #[.slice Aa na ca] 22)).alloc (.cells #[.slice Ab nb cb] 22)).heap[w.heap.size + 1 + 1 + 1]? = some (.cells #[.slice Aa na ca] 22 (0, 0)) := by
    have := blk_new (((w.alloc (.cells (madeCells #[.int .u64 0] m) 39)).alloc (.cells #[.slice (some ⟨w.heap.size, 0, none⟩) 0 m] 22)).alloc (.cells #[.int .u64 0] 39)) (.cells #[.slice Aa na ca] 22)
    rw [World.size_alloc, World.size_alloc, World.size_alloc] at this
    exact blk_alloc this _
  have hBb : (((((w.alloc (.cells (madeCells #[.int .u64 0] m) 39)).alloc (.cells #[.slice (some ⟨w.heap.size, 0, none⟩) 0 m] 22)).alloc (.cells #[.int .u64 0] 39)).alloc (.cells #[.slice Aa na ca] 22)).alloc (.cells #[.slice Ab nb cb] 22)).heap[w.heap.size + 1 + 1 + 1 + 1]? = some (.cells #[.slice Ab nb cb] 22 (0, 0)) := by
    have := blk_new ((((w.alloc (.cells (madeCells #[.int .u64 0] m) 39)).alloc (.cells #[.slice (some ⟨w.heap.size, 0, none⟩) 0 m] 22)).alloc (.cells #[.int .u64 0] 39)).alloc (.cells #[.slice Aa na ca] 22)) (.cells #[.slice Ab nb cb] 22)
    rw [World.size_alloc, World.size_alloc, World.size_alloc, World.size_alloc] at this
    exact this
  have hB0 : Below w.heap.size w (((((w.alloc (.cells (madeCells #[.int .u64 0] m) 39)).alloc (.cells #[.slice (some ⟨w.heap.size, 0, none⟩) 0 m] 22)).alloc (.cells #[.int .u64 0] 39)).alloc (.cells #[.slice Aa na ca] 22)).alloc (.cells #[.slice Ab nb cb] 22)) := below_alloc (below_alloc (below_alloc (below_alloc (below_alloc (Below.refl _ _) _) _) _) _) _
  have hO1 := (hO0.grown (World.grownBy_alloc _ (.cells #[.slice Aa na ca] 22) none) (by simp) (by simp) (by simp)).grown (World.grownBy_alloc _ (.cells #[.slice Ab nb cb] 22) none) (by simp) (by simp) (by simp)
  refine wpIn_rangeFunc_ownG rfl (by omega) (gf := 57) (lb := #[.pointer (some ⟨w.heap.size + 1 + 1 + 1, 0, none⟩), .pointer (some ⟨w.heap.size + 1 + 1 + 1 + 1, 0, none⟩)]) rfl trivial (enters_of Try.func57 (by kernel_rfl) rfl)
    (pairs_stops 5 (by omega) (w.heap.size + 1 + 1 + 1) (w.heap.size + 1 + 1 + 1 + 1) w.heap.size na nb ca cb Aa Ab a b hia hib _ hBa hBb (by simp; omega) (HA.out.toB.keep hB0) (HB.out.toB.keep hB0))
    KeepB.trans (keepB_b (by simp; omega) (by simp) (by simp)) (Below.refl _ _) (fun _ => rfl)
    (fun pre W => ((∃ out c, Own3 w.heap.size m (.int .u64 c) pre.length out W ∧ SubInv pre out c) ∧ w.heap.size + 5 ≤ W.heap.size) ∧ Below w.heap.size w W)
    (fun _ _ _ => False)
    (OwnFrom.and (Own.from (fun s A B row hs hg hr => by
      obtain ⟨⟨out, c, ho, hi⟩, hz⟩ := hs
      exact ⟨⟨out, c, ho.other hg hr, hi⟩, Nat.le_trans hz hg.size⟩) _) (ownFrom_below (Nat.le_refl _) (by simp; omega)))
    (fun _ _ _ _ _ hs _ _ => hs)
    ⟨⟨⟨[], 0, hO1, SubInv.nil⟩, by simp⟩, hB0⟩
    ?a1 ?assign ?body ?done ?stop
  case assign =>
    intro l x W K hK
    gi_wp2
    exact hK
  case body =>
    rintro l pre x W ⟨⟨⟨out, c, hO, hI⟩, hz⟩, hB⟩ hlt
    have hx := x.2.1
    have hy := x.2.2
    have c0 := hI.c0
    have c1 := hI.c1
    have qo := hO.bo.cell
    have qc := hO.bc.cell
    have HO := Aside0.mk hO
    have HI := Aside0.mk hI
    have HBW := Aside0.mk hB
    have HZ := Aside0.mk hz
    clear hO hI hB hz
    have hd : 1 ≤ 6 - 1 - 1 := by omega
    have hle : pre.length + 1 ≤ m := by have := HM.out; omega
    have HLT := Aside0.mk hlt
    clear hlt
    gi_wp2_with (first | (gi_at_builtin; refine wpListIn_append_fits _ rfl _ _ 22 rfl w.heap.size 39 i0 1 Try.underlying22 hi hz1 w.heap.size pre.length m _ rfl (HO.out.row.alloc _) ⟨W.heap.size, 0, none⟩ 1 1 [.int .u64 (subLo x.1.1 x.1.2 c)] rfl rfl (cell_one_new _ _ _) (by simp [Value.oneCell']) hle ?_; intro w1 hown1 hgrow1; have b1 := (HO.out.bo.alloc _).kept hgrow1 (by simp); have b2 := (HO.out.bc.alloc _).kept hgrow1 (by simp; omega); have q1 := b1.cell; have q2 := b2.cell; have f1 := b1.frozen; have f2 := b2.frozen; have HOW := Aside0.mk hown1; have HGR := Aside0.mk hgrow1; clear hown1 hgrow1 b1 b2) | ((refine ⟨trivial, ?_⟩); (gi_at_call 51); (with_reducible refine (CallsIn.inRound l (callsIn_wide.2 (word_sub _ _ _ hx hy c0 c1 _))).mono ?_); (rintro e w' ⟨rfl, rfl⟩)))
    exact ⟨(keepsOthers_step HO.out HGR.out).from _, keepB_step HZ.out HGR.out, ⟨⟨_, _, by rw [List.length_append]; exact HO.out.step HOW.out HGR.out, HI.out.snoc x⟩, size_step HZ.out HGR.out⟩, below_step HBW.out HGR.out⟩
  case done =>
    rintro D ys W hD rfl ⟨⟨⟨out, c, hO, hI⟩, hz⟩, hB⟩ hK
    have hln : (upto (pairAt hia hib) (max na nb)).length = m := by rw [upto_length]; exact HM.out.symm
    have c0 := hI.c0
    have c1 := hI.c1
    have hvl := hI.val
    rw [hln] at hO hvl
    have hol : out.length = m := by rw [hI.len, hln]
    rw [val_fsts hia hib, val_snds hia hib, take_max HA.out.1 (Nat.le_max_left _ _), take_max HB.out.1 (Nat.le_max_right _ _)] at hvl
    have hlo := val_lt W_pos hI.inb
    have hlb := val_lt W_pos hib
    have hbm := Nat.pow_le_pow_right W_pos (show b.length ≤ m by rw [HB.out.1, HM.out]; exact Nat.le_max_right _ _)
    rw [hol] at hlo
    have HIB := Aside0.mk hI.inb
    have HOL := Aside0.mk hol
    have qo := hO.bo.cell
    have qc := hO.bc.cell
    have HRD := Aside0.mk (own_reads' (k := .u64) (xs := out) hO.row)
    have HO := Aside0.mk hO
    have HBW := Aside0.mk hB
    have HZ := Aside0.mk hz
    have HD := Aside0.mk hD
    have HK := Aside0.mk hK
    have hcc : c = 0 ∨ c = 1 := by omega
    clear hO hI hB hz hD hK hol hln
    rcases hcc with rfl | rfl
    · have HVL := Aside0.mk (show ¬ val Num.W a < val Num.W b ∧ val Num.W out = val Num.W a - val Num.W b by simp at hvl; omega)
      clear hvl hlo hlb hbm
      gi_wp2_with ((refine ⟨trivial, ?_⟩); (gi_at_call 41); (with_reducible refine (callsIn_wide.2 (nat_norm' _ m m out _ HRD.out (Nat.le_refl _) HIB.out)).mono ?_); (rintro e w' ⟨k, hk1, hk2, rfl, rfl⟩))
      rw [HVL.out.2] at hk2
      have hfin := subPost_done (B := w.heap.size) rfl HBW.out HZ.out HRD.out (by have := HRD.out.1; omega) HVL.out.1 hk2 (by have := HD.out; simp at this; omega) HK.out
      refine ⟨by simp, .inl ⟨_, _, rfl, run_takeDeferred HK.out, ?_⟩⟩
      refine ⟨_, results_tmp2 rfl _ _ _, ?_⟩
      exact hfin
    · have HVL := Aside0.mk (show val Num.W a < val Num.W b by simp at hvl; omega)
      clear hvl hlo hlb hbm
      gi_wp2
      have hfin := subPost_less (B := w.heap.size) rfl HBW.out HVL.out (by have := HD.out; simp at this; omega) HK.out
      refine ⟨by simp, .inl ⟨_, _, rfl, run_takeDeferred HK.out, ?_⟩⟩
      refine ⟨_, results_tmp2 rfl _ _ _, ?_⟩
      exact hfin
  case stop =>
    rintro D c pre W _ _ h _
    exact h.elim
def nat_Sub.f (l0 l1 : List Int) : Option (List Int × Int) := if inb l0 = true ∧ inb l1 = true ∧ l0.length ≤ LIM ∧ l1.length ≤ LIM then some (if val W l0 < val W l1 then [] else dig W (val W l0 - val W l1), if val W l0 < val W l1 then 3 else 0) else none
theorem nat_Sub.calls (A0 : Option Addr) (c0 : Nat) (l0 : List Int) (A1 : Option Addr) (c1 : Nat) (l1 : List Int) (r1 : List Int) (r2 : Int) (w : World)
    (hr0 : Kd.C (Kd.int .u64) w A0 l0.length l0) (_hc0 : l0.length ≤ c0) (hr1 : Kd.C (Kd.int .u64) w A1 l1.length l1) (_hc1 : l1.length ≤ c1) (h : nat_Sub.f l0 l1 = some (r1, r2)) :
    Calls Try.prog 34 #[.slice A0 l0.length c0, .slice A1 l1.length c1] w fun e w' => ∃ v0_ : Value, e = .returned (.tuple #[v0_, .int .i64 r2]) ∧ Kd.V (Kd.int .u64) 39 w' w.heap.size (fun k_ => (w.heap.size ≤ k_)) v0_ r1 ∧ Below w.heap.size w w' := by
  unfold nat_Sub.f at h
  split at h
  · rename_i hi
    obtain ⟨rfl, rfl⟩ := Prod.mk.injEq .. ▸ Option.some.inj h
    exact Calls.mono (nat_sub A0 A1 _ _ c0 c1 l0 l1 w (Rd.of_C hr0) (Rd.of_C hr1) (inb_iff.1 hi.1) (inb_iff.1 hi.2.1) hi.2.2.1 hi.2.2.2) fun e w' ⟨⟨v, h1, h2⟩, h3⟩ => ⟨v, h1, h2, h3⟩
  · cases h
end Go.Proofs.Ytcgcffnhlafneaa.Hand

/- nat.Scale by hand: a number times a word: the row of the product of the values; new memory alone is written. Conditions: words, not too many. -/
namespace Go.Proofs.Ytcgcffnhlafneaa.Hand
open Go.RowKit Go.Proofs.YtcgcffnhlafneaaW.PrintWords Go.Proofs.YtcgcffnhlafneaaW.PrintMore Go.Proofs.Ytcgcffnhlafneaa.Num
set_option linter.unusedVariables false
set_option linter.unusedSimpArgs false
attribute [local go_sem] Oper.semAt_some max2_int min2_int max_two min_two

/-- What has been made of a number's first words: the product's words, and what is carried. -/
structure SclInv (x : Int) (pre : List Int) (out : List Int) (c : Int) : Prop where
  len : out.length = pre.length
  inb : InB W out
  c0 : Wd c
  val : val W out + W ^ pre.length * c.toNat = val W pre * x.toNat
theorem SclInv.nil (x : Int) : SclInv x [] [] 0 := ⟨rfl, inB_nil _, by unfold Wd; omega, by simp [Num.val]⟩
theorem scl_carry {y x c : Int} (hy : Wd y) (hx : Wd x) (hc : Wd c) : Wd (mulHi y x + sumHi (mulLo y x) c 0) ∧ sumLo (mulLo y x) c 0 + 18446744073709551616 * (mulHi y x + sumHi (mulLo y x) c 0) = y * x + c := by
  have h1 := mul_eq y x
  have h2 := sum_eq (mulLo y x) c 0
  have h3 := sumLo_wd (mulLo y x) c 0
  have h4 := mulHi_wd hy hx
  have h5 := sumHi_le (mulLo_wd y x) hc (Int.le_refl 0) (by omega : (0 : Int) ≤ 1)
  have h6 : y * x ≤ 18446744073709551615 * 18446744073709551615 := by
    obtain ⟨y, rfl⟩ := Int.eq_ofNat_of_zero_le hy.1
    obtain ⟨x, rfl⟩ := Int.eq_ofNat_of_zero_le hx.1
    have := Nat.mul_le_mul (show y ≤ 18446744073709551615 by have := hy.2; omega) (show x ≤ 18446744073709551615 by have := hx.2; omega)
    exact (Int.ofNat_le.2 this : ((y * x : Nat) : Int) ≤ ((18446744073709551615 * 18446744073709551615 : Nat) : Int))
  unfold Wd at *
  generalize mulHi y x = p at *
  generalize mulLo y x = q at *
  generalize sumHi q c 0 = r at *
  generalize sumLo q c 0 = t at *
  generalize y * x = z at *
  omega
theorem SclInv.snoc {x : Int} {pre out : List Int} {c y : Int} (h : SclInv x pre out c) (hx : Wd x) (hy : Wd y) : SclInv x (pre ++ [y]) (out ++ [sumLo (mulLo y x) c 0]) (mulHi y x + sumHi (mulLo y x) c 0) := by
  obtain ⟨hw, he⟩ := scl_carry hy hx h.c0
  have hl := sumLo_wd (mulLo y x) c 0
  refine ⟨by simp [h.len], inB_append.2 ⟨h.inb, inB_cons.2 ⟨wd_inb hl, inB_nil _⟩⟩, hw, ?_⟩
  rw [val_snoc, val_snoc, h.len, List.length_append, List.length_singleton, Nat.pow_succ]
  have hv := h.val
  have hc := h.c0
  generalize mulHi y x + sumHi (mulLo y x) c 0 = t at *
  generalize sumLo (mulLo y x) c 0 = s at *
  obtain ⟨s, rfl⟩ := Int.eq_ofNat_of_zero_le hl.1
  obtain ⟨t, rfl⟩ := Int.eq_ofNat_of_zero_le hw.1
  obtain ⟨x, rfl⟩ := Int.eq_ofNat_of_zero_le hx.1
  obtain ⟨y, rfl⟩ := Int.eq_ofNat_of_zero_le hy.1
  obtain ⟨c, rfl⟩ := Int.eq_ofNat_of_zero_le hc.1
  simp only [Int.toNat_natCast] at *
  have he' : s + W * t = y * x + c := Int.ofNat_inj.1 (show ((s + W * t : Nat) : Int) = ((y * x + c : Nat) : Int) from he)
  generalize Num.val W pre = A at *
  generalize Num.val W out = O at *
  generalize W ^ pre.length = p at *
  clear he hw hl hx hy hc h
  have : p * s + p * W * t = p * y * x + p * c := by rw [Nat.mul_assoc, ← Nat.mul_add, he', Nat.mul_add, Nat.mul_assoc]
  rw [Nat.add_mul]
  omega
theorem SclInv.done {x : Int} {a out : List Int} {c : Int} (h : SclInv x a out c) : InB Num.W (out ++ [c]) ∧ Num.val Num.W (out ++ [c]) = Num.val Num.W a * x.toNat :=
  ⟨inB_append.2 ⟨h.inb, inB_cons.2 ⟨wd_inb h.c0, inB_nil _⟩⟩, by rw [val_snoc, h.len]; exact h.val⟩

/-- The end of a call that hands back its own row, cut short. -/
theorem newPost_ret {w W w1 : World} {m k : Nat} {l r : List Int} {o : Obj} (hbl : Below w.heap.size w W) (hsz : w.heap.size < W.heap.size) (hg : (W.alloc o).grownBy w1 (some w.heap.size)) (hr : Rd w1 (some ⟨w.heap.size, 0, none⟩) m l) (hk : k ≤ m) (he : l.take k = r) :
    NewPost r w (.returned (.slice (some ⟨w.heap.size, 0, none⟩) k k)) w1 := by
  refine ⟨_, rfl, Vw.of_Rd (l := r) (n := k) ?_ (Nat.le_refl _) ?_, ?_⟩
  · rw [← he]; exact hr.take k hk
  · intro ad e _; cases e; simp
  · exact (below_alloc hbl o).grown hg (by simp; omega) (fun k e => by cases e; omega)
theorem take_snoc (a : List Int) (k : Nat) (h : k < a.length) : a.take (k + 1) = a.take k ++ [a.getD k 0] := by
  rw [List.take_add_one, List.getD_eq_getElem?_getD, List.getElem?_eq_getElem h]; rfl

set_option maxRecDepth 100000 in
set_option maxHeartbeats 2000000 in
theorem nat_scale (A : Option Addr) (n ca : Nat) (a : List Int) (x : Int) (w : World) (hr : Rd w A n a) (hia : InB Num.W a) (hx : Wd x) (hna : n ≤ 17592186044400) :
    Calls Try.prog 56 #[.slice A n ca, .int .u64 x] w (NewPost (dig Num.W (val Num.W a * x.toNat)) w) := by
  obtain ⟨i0, hi, hi2⟩ := Option.map_eq_some_iff.1 info64
  simp only [Prod.mk.injEq] at hi2
  obtain ⟨hz0, hz1, hz2⟩ := hi2
  have hmk := fun W => run_make_cap (n + 1) (by omega) W
  have hmk' : ∀ W : World, (Instr.makeSlice 22 (.int .i64 0) (.int .i64 ((n : Int) + 1))).run Try.prog W = .ok (.slice (some ⟨W.heap.size, 0, none⟩) 0 (n + 1)) (W.alloc (.cells (madeCells #[.int .u64 0] (n + 1)) 39)) := hmk
  have HA := Aside0.mk hr
  clear hr hmk
  go_enter Try.func56, Try.ntmps56
  go_wp2
  have h0 : (World.alloc w (.cells (madeCells #[.int .u64 0] (n + 1)) 39)).ownsRow w.heap.size 39 1 (.slice (some ⟨w.heap.size, 0, none⟩) 0 (n + 1)) 0 (nums .u64 []) := World.ownsRow_made (base := w.heap.size) (e := 39) (size := 1) w (madeCells #[.int .u64 0] (n + 1)) (n + 1) (Nat.le_refl _) (by unfold maxLen; omega) (by rw [size_madeCells, Nat.mul_one])
  have H0 := Aside0.mk h0
  clear h0
  go_loopw [5, 6, 19] (fun o c i wr => ∃ (k : Nat) (out : List Int) (cv : Int), k ≤ n ∧ i = .int .i64 k ∧ c = .int .u64 cv ∧ o = .slice (some ⟨w.heap.size, 0, none⟩) k (n + 1) ∧ Aside0 (wr.ownsRow w.heap.size 39 1 (.slice (some ⟨w.heap.size, 0, none⟩) k (n + 1)) k (nums .u64 out)) ∧ Aside0 (SclInv x (a.take k) out cv) ∧ Aside0 (Below w.heap.size w wr) ∧ Aside0 (w.heap.size < wr.heap.size)) (fun _ _ i _ => n - (intOf i).toNat)
  case atStart => exact ⟨0, [], 0, by omega, rfl, rfl, rfl, H0, ⟨by rw [List.take_zero]; exact SclInv.nil x⟩, ⟨below_alloc (Below.refl _ _) _⟩, ⟨by simp⟩⟩
  case round =>
    obtain ⟨k, out, c, hk, rfl, rfl, rfl, HO, HI, HB, HZ⟩ := hrel
    by_cases hlt : k < n
    · have hrk := (HA.out.toB.keep HB.out).1
      obtain ⟨ad, hA, hcell⟩ := hrk.2.2 (by omega)
      have hck := hcell k hlt
      have hyw := inB_getD Num.W_pos hia k
      have htk : a.take (k + 1) = a.take k ++ [a.getD k 0] := take_snoc a k (by rw [HA.out.1]; exact hlt)
      have HTK := Aside0.mk htk
      clear hcell hrk htk
      subst hA
      generalize a.getD k 0 = y at *
      have hy : Wd y := hyw
      have hc := HI.out.c0
      have hm1 := mulLo_wd y x
      obtain ⟨hcar, _⟩ := scl_carry hy hx hc
      have hcb := hcar.2
      have hca := hcar.1
      clear hyw
      have hle : k + 1 ≤ n + 1 := by omega
      have z0 : (0 : Int) ≤ 0 := Int.le_refl _
      have z1 : (0 : Int) ≤ 1 := by decide
      go_wp2_with (first | (at_builtin; refine wpList_append_fits _ rfl _ _ 22 rfl w.heap.size 39 i0 1 Try.underlying22 hi hz1 w.heap.size k (n + 1) _ rfl (HO.out.alloc _) ⟨wr.heap.size, 0, none⟩ 1 1 [.int .u64 (sumLo (mulLo y x) c 0)] rfl rfl (cell_one_new _ _ _) (by simp [Value.oneCell']) hle ?_; intro w1 hown1 hgrow1; have HOW := Aside0.mk hown1; have HGR := Aside0.mk hgrow1; clear hown1 hgrow1) | ((go_at_call 68); (refine (word_mul _ _ hy hx _).mono ?_); (rintro e w' ⟨rfl, rfl⟩)) | ((go_at_call 47); (refine (word_add _ _ _ hm1 hc z0 z1 _).mono ?_); (rintro e w' ⟨rfl, rfl⟩)))
      refine ⟨⟨k + 1, out ++ [sumLo (mulLo y x) c 0], mulHi y x + sumHi (mulLo y x) c 0, by omega, by go_num, rfl, rfl, ⟨by simpa [nums] using HOW.out⟩, ⟨by rw [HTK.out]; exact HI.out.snoc hx hy⟩, ⟨(below_alloc HB.out _).grown HGR.out (by have := HZ.out; simp; omega) (fun j e => by cases e; exact Nat.le_refl _)⟩, ⟨by have := HGR.out.size; have := HZ.out; simp at *; omega⟩⟩, by simp [intOf]; omega⟩
    · obtain rfl : k = n := by omega
      have hI := HI.out
      rw [List.take_of_length_le (by rw [HA.out.1]; exact Nat.le_refl _)] at hI
      have HD := Aside0.mk hI.done
      have hle : k + 1 ≤ k + 1 := Nat.le_refl _
      clear hI
      go_wp2_with (first | (at_builtin; refine wpList_append_fits _ rfl _ _ 22 rfl w.heap.size 39 i0 1 Try.underlying22 hi hz1 w.heap.size k (k + 1) _ rfl (HO.out.alloc _) ⟨wr.heap.size, 0, none⟩ 1 1 [.int .u64 c] rfl rfl (cell_one_new _ _ _) (by simp [Value.oneCell']) hle ?_; intro w1 hown1 hgrow1; have hrd1 := own_reads' (k := .u64) (xs := out ++ [c]) (by simpa [nums] using hown1); have HRD := Aside0.mk hrd1; have HGR := Aside0.mk hgrow1; clear hown1 hgrow1 hrd1) | ((go_at_call 41); (refine (nat_norm' _ (k + 1) (k + 1) (out ++ [c]) _ HRD.out (Nat.le_refl _) HD.out.1).mono ?_); (rintro e w' ⟨j, hk1, hk2, rfl, rfl⟩)))
      rw [HD.out.2] at hk2
      refine bodyPost_ret (results_tmp rfl _ _ _) rfl ?_
      exact newPost_ret HB.out HZ.out HGR.out HRD.out (by have := HRD.out.1; omega) hk2

def wd (x : Int) : Bool := decide (0 ≤ x) && decide (x < 18446744073709551616)
theorem wd_iff {x : Int} : wd x = true ↔ Wd x := by simp [wd, Wd]
def nat_Scale.f (l0 : List Int) (a1 : Int) : Option (List Int) := if inb l0 = true ∧ wd a1 = true ∧ l0.length ≤ LIM then some (dig W (val W l0 * a1.toNat)) else none
theorem nat_Scale.calls (A0 : Option Addr) (c0 : Nat) (l0 : List Int) (a1 : Int) (r : List Int) (w : World)
    (hr0 : Kd.C (Kd.int .u64) w A0 l0.length l0) (_hc0 : l0.length ≤ c0) (h : nat_Scale.f l0 a1 = some r) :
    Calls Try.prog 56 #[.slice A0 l0.length c0, .int .u64 a1] w fun e w' => ∃ v0_ : Value, e = .returned (v0_) ∧ Kd.V (Kd.int .u64) 39 w' w.heap.size (fun k_ => (w.heap.size ≤ k_)) v0_ r ∧ Below w.heap.size w w' := by
  unfold nat_Scale.f at h
  split at h
  · rename_i hi
    cases h
    exact calls_of_new (nat_scale A0 _ c0 l0 a1 w (Rd.of_C hr0) (inb_iff.1 hi.1) (wd_iff.1 hi.2.1) hi.2.2)
  · cases h
end Go.Proofs.Ytcgcffnhlafneaa.Hand

/- word.Len, nat.Norm, nat.Len, nat.Shr, nat.Low by hand. -/
namespace Go.Proofs.Ytcgcffnhlafneaa.Hand
open Go.RowKit Go.Proofs.YtcgcffnhlafneaaW.PrintWords Go.Proofs.YtcgcffnhlafneaaW.PrintMore Go.Proofs.Ytcgcffnhlafneaa.Num
set_option linter.unusedVariables false
set_option linter.unusedSimpArgs false
attribute [local go_sem] Oper.semAt_some max2_int min2_int max_two min_two

/-! ### nat.Norm, nat.Len -/
theorem Vw.of {w : World} {base : Nat} {ok : Nat → Prop} {A : Option Addr} {n c : Nat} {l : List Int} (h : Vw w base ok (.slice A n c) l) : n = l.length ∧ n ≤ c ∧ Kd.F (Kd.int .u64) w ok A n l := by
  obtain ⟨A', c', e, hc, hf⟩ := h
  injection e with e1 e2 e3
  subst e1; subst e2; subst e3
  exact ⟨rfl, hc, hf⟩
theorem Vw.cut {w : World} {base base' : Nat} {ok ok' : Nat → Prop} {A : Option Addr} {n c : Nat} {l : List Int} (h : Vw w base ok (.slice A n c) l) (k : Nat) (hk : k ≤ n) (hok : ∀ j, ok j → ok' j) : Vw w base' ok' (.slice A k k) (l.take k) := by
  obtain ⟨hn, _, hf⟩ := h.of
  have hl : (l.take k).length = k := by rw [List.length_take]; omega
  refine ⟨A, k, by rw [hl], by omega, fun W' hW => ?_⟩
  rw [hl]
  have h1 := Rd.of_C (hf W' fun j hj hlt => hW j (hok j hj) hlt)
  exact Rd.to_C (h1.take k hk)
def nat_Norm.f (l0 : List Int) : Option (List Int) := if inb l0 = true then some (dig W (val W l0)) else none
theorem nat_Norm.calls (P0_ : Nat → Prop) (A0 : Option Addr) (c0 : Nat) (l0 : List Int) (r : List Int) (w : World)
    (hs0 : Kd.V (Kd.int .u64) 39 w w.heap.size (fun k_ => P0_ k_) (.slice A0 l0.length c0) l0) (h : nat_Norm.f l0 = some r) :
    Calls Try.prog 41 #[.slice A0 l0.length c0] w fun e w' => ∃ v0_ : Value, e = .returned (v0_) ∧ Kd.V (Kd.int .u64) 39 w' w.heap.size (fun k_ => (P0_ k_ ∨ w.heap.size ≤ k_)) v0_ r ∧ Below w.heap.size w w' := by
  unfold nat_Norm.f at h
  split at h
  · rename_i hi
    cases h
    have hv := Vw.of hs0
    refine Calls.mono (nat_norm A0 c0 l0 w (Rd.of_C (Kd.F_now hv.2.2)) hv.2.1 (inb_iff.1 hi)) ?_
    rintro e w' ⟨m, hm, he, rfl, rfl⟩
    exact ⟨_, rfl, by rw [← he]; exact Vw.cut hs0 m hm (fun _ h => .inl h), Below.refl _ _⟩
  · cases h

/-- How many bits a row's value has. -/
def nat_Len.f (l0 : List Int) : Option Int := if inb l0 = true ∧ l0.length ≤ LIM then some (bl (val W l0)) else none
theorem bl_top {p q x : Nat} (hq : q < 2 ^ p) (hx : 0 < x) : bl (q + 2 ^ p * x) = p + bl x := by
  have h1 : bl (q + 2 ^ p * x) ≤ p + bl x := bl_le.2 (by
    have h2 : x < 2 ^ bl x := bl_le.1 (Nat.le_refl _)
    rw [Nat.pow_add]
    have := Nat.mul_le_mul_left (2 ^ p) h2
    rw [Nat.mul_succ] at this
    omega)
  have h3 : ¬ bl (q + 2 ^ p * x) ≤ p + bl x - 1 := fun h => by
    have h4 := bl_le.1 h
    have h5 : ¬ x < 2 ^ (bl x - 1) := fun h => by
      have := bl_le.2 h
      have : bl x ≠ 0 := fun h => by
        have := bl_le.1 (Nat.le_of_eq h)
        omega
      omega
    have h6 : bl x ≠ 0 := fun h => by
      have := bl_le.1 (Nat.le_of_eq h)
      omega
    rw [show p + bl x - 1 = p + (bl x - 1) by omega, Nat.pow_add] at h4
    have := Nat.mul_le_mul_left (2 ^ p) (Nat.le_of_not_lt h5)
    omega
  omega
theorem W_pow (k : Nat) : W ^ k = 2 ^ (64 * k) := by rw [Nat.pow_mul]; rfl
theorem bl_dig {l : List Int} {n : Nat} (h : dig W n = l) (k : Nat) (hl : l.length = k + 1) : bl n = 64 * k + bl (l.getD k 0).toNat := by
  have hi := dig_inB W_gt n
  have hv := val_dig W_gt n
  have ho := dig_ord W_gt n
  rw [h] at hi hv ho
  have e := val_take_succ W l k
  rw [← hl, List.take_length, hv] at e
  have hlt := val_take_lt hi k
  rw [W_pow] at hlt e
  have hx : l.getD k 0 ≠ 0 := by
    rcases ho with ho | ho
    · subst ho; simp at hl
    · rw [List.getLastD_eq_getLast?, List.getLast?_eq_getElem?, hl, Nat.add_sub_cancel] at ho
      rwa [List.getD_eq_getElem?_getD]
  have hx0 := (inB_getD W_pos hi k).1
  rw [e, bl_top hlt (by omega)]
/-- nat.Norm, how long it leaves the row said. -/
theorem nat_norm_at (A : Option Addr) (n c : Nat) (l : List Int) (w : World) (hr : Rd w A n l) (hc : n ≤ c) (hb : InB Num.W l) :
    Calls Try.prog 41 #[.slice A n c] w fun e w' => e = .returned (.slice A (dig Num.W (val Num.W l)).length (dig Num.W (val Num.W l)).length) ∧ w = w' := by
  have hl : l.length = n := hr.1
  subst hl
  refine (nat_norm A c l w hr hc hb).mono ?_
  rintro e w' ⟨m, hm, he, rfl, rfl⟩
  rw [← he, List.length_take, Nat.min_eq_left hm]
  exact ⟨rfl, rfl⟩
theorem norm_facts {l : List Int} (hb : InB Num.W l) : (dig Num.W (val Num.W l)).length ≤ l.length ∧ l.take (dig Num.W (val Num.W l)).length = dig Num.W (val Num.W l) := by
  have hlt := val_lt Num.W_pos hb
  have h1 := dig_length_le Num.W_gt hlt
  have hval : val Num.W l < Num.W ^ (dig Num.W (val Num.W l)).length := by have := val_lt Num.W_pos (dig_inB Num.W_gt (val Num.W l)); rwa [val_dig Num.W_gt] at this
  refine ⟨h1, dig_of Num.W_gt (inB_take hb _) ?_ ?_⟩
  · rcases Nat.eq_zero_or_pos (dig Num.W (val Num.W l)).length with h | h
    · rw [h]; exact .inl (by simp)
    · obtain ⟨k, hk⟩ : ∃ k, (dig Num.W (val Num.W l)).length = k + 1 := ⟨_, (Nat.succ_pred_eq_of_pos h).symm⟩
      rw [hk]
      refine .inr ?_
      have h0 : l.getD k 0 ≠ 0 := fun h0 => by
        have e := val_take_succ Num.W l k
        have hz : val Num.W (l.drop (k + 1)) = 0 := by
          have h3 : val Num.W l < Num.W ^ (k + 1) := by rw [← hk]; exact hval
          rw [val_drop_div Num.W_pos hb (k + 1) (by omega), Nat.div_eq_of_lt h3]
        have e2 := val_take_drop Num.W l (k + 1) (by omega)
        rw [hz, Nat.mul_zero, Nat.add_zero] at e2
        rw [h0, show Int.toNat 0 = 0 from rfl, Nat.mul_zero, Nat.add_zero] at e
        have h4 : val Num.W l < Num.W ^ k := by rw [e2, e]; exact val_take_lt hb k
        have := dig_length_le Num.W_gt h4
        omega
      rw [List.getLastD_eq_getLast?, List.getLast?_eq_getElem?, List.length_take, Nat.min_eq_left (by omega), List.getElem?_take, if_pos (by omega), Nat.add_sub_cancel]
      rwa [List.getD_eq_getElem?_getD] at h0
  · have e2 := val_take_drop Num.W l (dig Num.W (val Num.W l)).length h1
    rw [val_take_mod Num.W_pos hb _ h1, Nat.mod_eq_of_lt hval]
set_option maxRecDepth 100000 in
theorem nat_len (A : Option Addr) (n c : Nat) (l : List Int) (w : World) (hr : Rd w A n l) (hc : n ≤ c) (hb : InB Num.W l) (hn : n ≤ LIM) :
    Calls Try.prog 30 #[.slice A n c] w fun e w' => e = .returned (.int .i64 (bl (val Num.W l))) ∧ w = w' := by
  have hN := nat_norm_at A n c l w hr hc hb
  obtain ⟨h1, h2⟩ := norm_facts hb
  have hl : l.length = n := hr.1
  rw [hl] at h1
  obtain ⟨m, hm⟩ : ∃ m, m = (dig Num.W (val Num.W l)).length := ⟨_, rfl⟩
  rw [← hm] at hN h1
  unfold LIM at hn
  rcases Nat.eq_zero_or_pos m with h0 | h0
  · subst h0
    have h5 : val Num.W l = 0 := (dig_eq_nil Num.W_gt).1 (List.eq_nil_of_length_eq_zero hm.symm)
    rw [h5]
    have HN := Aside0.mk hN
    clear h5 hN hm h2 hr hl
    go_enter Try.func30, Try.ntmps30
    go_wp2_with ((go_at_call 41); (refine HN.out.mono ?_); (rintro e w' ⟨rfl, rfl⟩))
    go_ret
    exact ⟨rfl, rfl⟩
  · obtain ⟨k, rfl⟩ : ∃ k, m = k + 1 := ⟨m - 1, by omega⟩
    have e := bl_dig rfl k hm.symm
    obtain ⟨ad, rfl, hcell⟩ := hr.2.2 (by omega)
    have hck := hcell k (by omega)
    have hdk : (dig Num.W (val Num.W l)).getD k 0 = l.getD k 0 := by
      rw [← h2, ← hm, List.getD_eq_getElem?_getD, List.getElem?_take, if_pos (by omega), ← List.getD_eq_getElem?_getD]
    rw [hdk] at e
    have hw : Wd (l.getD k 0) := inB_getD Num.W_pos hb k
    have hb64 : bl (l.getD k 0).toNat ≤ 64 := bl_le.2 (by have := hw.2; omega)
    rw [e]
    have HN := Aside0.mk hN
    clear hcell hN hm h2 hr hl hdk e
    generalize l.getD k 0 = x at *
    generalize hz : bl x.toNat = z at *
    have hL := fun W => word_len x hw W
    rw [hz] at hL
    have HL := Aside0.mk hL
    clear hL hz
    go_enter Try.func30, Try.ntmps30
    go_wp2_with (first | ((go_at_call 41); (refine HN.out.mono ?_); (rintro e w' ⟨rfl, rfl⟩)) | ((go_at_call 49); (refine (HL.out _).mono ?_); (rintro e w' ⟨rfl, rfl⟩)))
    go_ret
    exact ⟨rfl, rfl⟩
theorem nat_Len.calls (A0 : Option Addr) (c0 : Nat) (l0 : List Int) (r : Int) (w : World)
    (hr0 : Kd.C (Kd.int .u64) w A0 l0.length l0) (hc0 : l0.length ≤ c0) (h : nat_Len.f l0 = some r) :
    Calls Try.prog 30 #[.slice A0 l0.length c0] w fun e w' => e = .returned (.int .i64 r) ∧ Below w.heap.size w w' := by
  unfold nat_Len.f at h
  split at h
  · rename_i hi
    cases h
    exact Calls.mono (nat_len A0 _ c0 l0 w (Rd.of_C hr0) hc0 (inb_iff.1 hi.1) hi.2) fun e w' h => ⟨h.1, by rw [← h.2]; exact Below.refl _ _⟩
  · cases h
end Go.Proofs.Ytcgcffnhlafneaa.Hand

/- nat.Shr by hand: a number, moved down: the row of the value over a power of 2; new memory alone is written. Conditions: words, not too many. -/
namespace Go.Proofs.Ytcgcffnhlafneaa.Hand
open Go.RowKit Go.Proofs.YtcgcffnhlafneaaW.PrintWords Go.Proofs.YtcgcffnhlafneaaW.PrintMore Go.Proofs.Ytcgcffnhlafneaa.Num
set_option linter.unusedVariables false
set_option linter.unusedSimpArgs false
attribute [local go_sem] Oper.semAt_some max2_int min2_int max_two min_two

theorem run_make_len (m : Nat) (hm : m * 8 ≤ 281474976710656) (W : World) :
    (Instr.makeSlice 22 (.int .i64 (m : Int)) (.int .i64 (m : Int))).run Try.prog W = .ok (.slice (some ⟨W.heap.size, 0, none⟩) m m) (W.alloc (.cells (madeCells #[.int .u64 0] m) 39)) := by
  obtain ⟨i, hi, hi2⟩ := Option.map_eq_some_iff.1 info64
  simp only [Prod.mk.injEq] at hi2
  have h := run_make (P := Try.prog) W 22 39 i (.int .u64 0) Try.underlying22 hi hi2.1 .i64 .i64 m m (by omega) (Int.le_refl _) (by rw [hi2.2.2]; omega) (by omega)
  rw [hi2.2.1, Nat.mul_one, Int.toNat_natCast] at h
  exact h

/-- A row of words that a call has made: its block holds the words l. -/
abbrev Row64 (w : World) (B : Nat) (l : List Int) : Prop := w.heap[B]? = some (.cells (nums .u64 l).toArray 39 (0, 0))
theorem Row64.rd {w : World} {B n : Nat} {l : List Int} (h : Row64 w B l) (hl : l.length = n) (hn : n ≤ 35184372088832) : Rd w (some ⟨B, 0, none⟩) n l := by
  subst hl
  have ho : w.ownsRow B 39 1 (.slice (some ⟨B, 0, none⟩) l.length l.length) l.length (nums .u64 l) :=
    ⟨by simp [nums], .inr ⟨B, l.length, _, rfl, Nat.le_refl _, h, Nat.le_refl _, by unfold maxLen; omega, by simp [nums], by rw [Nat.mul_one]; exact List.take_of_length_le (by simp [nums])⟩⟩
  exact own_reads' ho
theorem Row64.set {w : World} {B : Nat} {l : List Int} (h : Row64 w B l) (k : Nat) (y : Int) : Row64 (w.setCell ⟨B, k, none⟩ (.int .u64 y)) B (l.set k y) := by
  unfold Row64
  rw [setCell_eq_setRow w B k _ _ _ _ h, setRow_heap w B _ _ _ _ h]
  simp [nums, List.map_set]
theorem Row64.made {w : World} (m : Nat) : Row64 (w.alloc (.cells (madeCells #[.int .u64 0] m) 39)) w.heap.size (List.replicate m 0) := by
  unfold Row64
  rw [blk_new]
  congr 2
  apply Array.ext'
  refine (List.eq_replicate_iff (a := Value.int .u64 0) (n := m)).2 ⟨by simp [madeCells], ?_⟩ |>.trans (by simp [nums])
  simp [madeCells, Nat.mod_one]
theorem size64 : (Try.prog.info? 39).map (·.size) = some 1 := by kernel_rfl

/-- copy, into a row of the call's own. -/
theorem run_copy64 (W : World) (B off dLen dCap : Nat) (l : List Int) (hrow : Row64 W B l) (ad : Addr) (sLen sCap : Nat) (cs : List Int) (hn : cs.length = Nat.min sLen dLen)
    (hsrc : ∀ j, j < cs.length → W.cell? (ad.add j) = some (.int .u64 (cs.getD j 0))) (hfit : off + cs.length ≤ l.length) :
    ∃ w2, (Builtin.copy_ #[22, 22] 3 #[.slice (some ⟨B, off, none⟩) dLen dCap, .slice (some ad) sLen sCap]).run Try.prog W = .ok (goInt cs.length) w2 ∧
      Row64 w2 B (l.take off ++ cs ++ l.drop (off + cs.length)) ∧ (∀ (n : Nat) (w0 : World), n ≤ B → Below n w0 W → Below n w0 w2) ∧ w2.heap.size = W.heap.size ∧ (∀ j, j ≠ B → w2.heap[j]? = W.heap[j]?) := by
  have h := run_copy_row (P := Try.prog) W 22 22 3 39 B off dLen dCap ad sLen sCap _ 39 (nums .u64 cs) Try.underlying22 size64 hrow (by simpa [nums] using hn)
    (fun j v hj => by
      have hj2 : j < cs.length := by have := (List.getElem?_eq_some_iff.1 hj).1; simpa [nums] using this
      rw [hsrc j hj2]
      simp only [nums, List.getElem?_map, Option.map_eq_some_iff] at hj
      obtain ⟨x, hx, rfl⟩ := hj
      rw [List.getD_eq_getElem?_getD, hx]
      rfl) (by simpa [nums] using hfit) (by simp [nums, Value.oneCell'])
  rw [show (nums .u64 cs).length = cs.length by simp [nums]] at h
  refine ⟨_, h, ?_, fun n w0 hB hb => below_setRow hb hB _, by simp [World.setRow], fun j hj => setRow_other W B j _ hj⟩
  unfold Row64
  rw [setRow_heap W B _ _ _ _ hrow]
  simp [nums]

/-- A row of words, moved down by less than 64 bits. -/
def shw (R : Nat) (x y : Int) : Int := ((x.toNat / 2 ^ R + 2 ^ (64 - R) * (y.toNat % 2 ^ R) : Nat) : Int)
def shl (R : Nat) (l : List Int) : List Int := (List.range l.length).map fun k => shw R (l.getD k 0) (l.getD (k + 1) 0)
/-- The row, some of its words moved down already. -/
def mix (R k : Nat) (l : List Int) : List Int := (shl R l).take k ++ l.drop k
theorem shl_length (R : Nat) (l : List Int) : (shl R l).length = l.length := by simp [shl]
theorem mix_length (R k : Nat) (l : List Int) (hk : k ≤ l.length) : (mix R k l).length = l.length := by simp [mix, shl_length]; omega
theorem mix_getD (R k j : Nat) (l : List Int) (hk : k ≤ j) (hl : k ≤ l.length) : (mix R k l).getD j 0 = l.getD j 0 := by
  rw [List.getD_eq_getElem?_getD, List.getD_eq_getElem?_getD, mix, List.getElem?_append_right (by simp [shl_length]; omega), List.length_take, shl_length, Nat.min_eq_left hl, List.getElem?_drop, show k + (j - k) = j by omega]
theorem mix_succ (R k : Nat) (l : List Int) (hk : k < l.length) : (mix R k l).set k (shw R (l.getD k 0) (l.getD (k + 1) 0)) = mix R (k + 1) l := by
  have h1 : (shl R l)[k]? = some (shw R (l.getD k 0) (l.getD (k + 1) 0)) := by simp [shl, hk]
  have hk2 : k < (shl R l).length := by rw [shl_length]; exact hk
  unfold mix
  rw [List.set_append_right _ _ (by simp [shl_length]; omega), List.length_take, shl_length, Nat.min_eq_left (by omega), Nat.sub_self, List.drop_eq_getElem_cons hk, List.set_cons_zero, List.take_add_one, h1, List.append_assoc]
  rfl

theorem shl_cons (R : Nat) (x : Int) (l : List Int) : shl R (x :: l) = shw R x (l.getD 0 0) :: shl R l := by
  simp [shl, List.range_succ_eq_map, Function.comp_def]
theorem W_split {R : Nat} (hR : R < 64) : W = 2 ^ R * 2 ^ (64 - R) := by rw [← Nat.pow_add, show R + (64 - R) = 64 by omega]; rfl
theorem val_mod_pow {R : Nat} (hR : R < 64) (l : List Int) : val W l % 2 ^ R = (l.getD 0 0).toNat % 2 ^ R := by
  cases l with
  | nil => rfl
  | cons x l => rw [val, W_split hR, Nat.mul_assoc, Nat.add_mul_mod_self_left]; rfl
theorem val_shl {R : Nat} (hR : R < 64) : ∀ l : List Int, val W (shl R l) = val W l / 2 ^ R
  | [] => by simp [shl, val]
  | x :: l => by
    have hp := Nat.two_pow_pos R
    have h1 := Nat.div_add_mod (val W l) (2 ^ R)
    rw [shl_cons, val, val_shl hR l, val]
    rw [show val W l = val W l from rfl, shw, Int.toNat_natCast, ← val_mod_pow hR l]
    have e : W * val W l = 2 ^ R * (2 ^ (64 - R) * val W l) := by rw [W_split hR, Nat.mul_assoc]
    rw [e, Nat.add_mul_div_left _ _ hp, Nat.add_assoc]
    congr 1
    have h2 : 2 ^ (64 - R) * val W l = 2 ^ (64 - R) * (2 ^ R * (val W l / 2 ^ R)) + 2 ^ (64 - R) * (val W l % 2 ^ R) := by rw [← Nat.mul_add, h1]
    rw [h2, W_split hR, Nat.add_comm, ← Nat.mul_assoc, Nat.mul_comm (2 ^ (64 - R)) (2 ^ R)]
theorem shw_wd {R : Nat} (hR : R < 64) {x : Int} (hx : Wd x) (y : Int) : Wd (shw R x y) := by
  obtain ⟨x, rfl⟩ := Int.eq_ofNat_of_zero_le hx.1
  have hx2 := hx.2
  have hW : (18446744073709551616 : Nat) = 2 ^ R * 2 ^ (64 - R) := W_split hR
  have hlt : x / 2 ^ R < 2 ^ (64 - R) := Nat.div_lt_of_lt_mul (by rw [← hW]; omega)
  have hm := Nat.mod_lt y.toNat (Nat.two_pow_pos R)
  have h3 : 2 ^ (64 - R) * (y.toNat % 2 ^ R) + 2 ^ (64 - R) ≤ 18446744073709551616 := by
    rw [hW, Nat.mul_comm (2 ^ R), ← Nat.mul_succ]
    exact Nat.mul_le_mul_left _ hm
  unfold Wd shw
  rw [Int.toNat_natCast]
  generalize x / 2 ^ R = u at *
  generalize 2 ^ (64 - R) * (y.toNat % 2 ^ R) = v at *
  omega
theorem shl_inB {R : Nat} (hR : R < 64) {l : List Int} (hl : InB W l) : InB W (shl R l) := fun z hz => by
  obtain ⟨k, _, rfl⟩ := List.mem_map.1 hz
  exact shw_wd hR (inB_getD W_pos hl k) _
theorem mix_all (R : Nat) (l : List Int) (k : Nat) (hk : l.length = k) : mix R k l = shl R l := by
  subst hk
  rw [mix, List.drop_length, List.append_nil]
  exact List.take_of_length_le (by rw [shl_length]; exact Nat.le_refl _)
theorem shr_val {a : List Int} (ha : InB W a) {N Q R : Nat} (hN : N = 64 * Q + R) (hR : R < 64) (hQ : Q ≤ a.length) : val W (shl R (a.drop Q)) = val W a / 2 ^ N := by
  rw [val_shl hR, val_drop_div W_pos ha Q hQ, W_pow, Nat.div_div_eq_div_mul, ← Nat.pow_add, hN]
theorem sh_or (R : Nat) (hR : R < 64) {x y : Int} (hx : Wd x) (hy : Wd y) :
    bits BinOp.or IntKind.u64 (x / 2 ^ R) (IntKind.u64.wrap (IntKind.u64.wrap (y * 2) * 2 ^ (63 - R))) = shw R x y := by
  obtain ⟨x, rfl⟩ := Int.eq_ofNat_of_zero_le hx.1
  obtain ⟨y, rfl⟩ := Int.eq_ofNat_of_zero_le hy.1
  have hx2 := hx.2
  have hW : (18446744073709551616 : Nat) = 2 ^ R * 2 ^ (64 - R) := by rw [← Nat.pow_add, show R + (64 - R) = 64 by omega]
  have hlt : x / 2 ^ R < 2 ^ (64 - R) := Nat.div_lt_of_lt_mul (by rw [← hW]; omega)
  have e1 : ((x : Int) / 2 ^ R) = ((x / 2 ^ R : Nat) : Int) := by simp
  have e2 : ((y : Int) * 2 % 18446744073709551616 * 2 ^ (63 - R)) % 18446744073709551616 = ((y * 2 % 18446744073709551616 * 2 ^ (63 - R) % 18446744073709551616 : Nat) : Int) := by
    have : ((2 : Int) ^ (63 - R)) = ((2 ^ (63 - R) : Nat) : Int) := by simp
    rw [this]
    rfl
  have e3 : y * 2 % 18446744073709551616 * 2 ^ (63 - R) % 18446744073709551616 = 2 ^ (64 - R) * (y % 2 ^ R) := by
    rw [Nat.mod_mul_mod, Nat.mul_assoc, show 2 * 2 ^ (63 - R) = 2 ^ (64 - R) by rw [Nat.mul_comm, ← Nat.pow_succ, Nat.succ_eq_add_one, show 63 - R + 1 = 64 - R by omega], hW, Nat.mul_mod_mul_right, Nat.mul_comm]
  have hb : 2 ^ (64 - R) * (y % 2 ^ R) < 18446744073709551616 := by
    rw [hW, Nat.mul_comm]
    exact Nat.mul_lt_mul_of_pos_right (Nat.mod_lt _ (Nat.two_pow_pos R)) (Nat.two_pow_pos _)
  have hp : 2 ^ (64 - R) ≤ 18446744073709551616 := by
    rw [hW]
    exact Nat.le_mul_of_pos_left _ (Nat.two_pow_pos R)
  rw [IntKind.wrap_u64, IntKind.wrap_u64, e1, e2, e3, bits_or_u64_nat _ _ (by omega) hb, Nat.or_comm, ← Nat.two_pow_add_eq_or_of_lt hlt, Nat.add_comm]
  rfl
theorem nums_at (l : List Int) (k : Nat) (hk : k < l.length) : (nums .u64 l).toArray[k]? = some (.int .u64 (l.getD k 0)) := by
  rw [List.getD_eq_getElem?_getD]
  simp [nums, hk]

set_option maxRecDepth 100000 in
set_option maxHeartbeats 2000000 in
theorem nat_shr (A : Option Addr) (la ca : Nat) (a : List Int) (n : Int) (w : World) (hr : Rd w A la a) (hla : la ≤ ca) (hia : InB Num.W a) (hna : la ≤ 17592186044400) (hn : n ≤ 1099511627776) :
    Calls Try.prog 26 #[.slice A la ca, .int .i64 n] w (NewPost (dig Num.W (val Num.W a / 2 ^ n.toNat)) w) := by
  obtain ⟨N, hN⟩ : ∃ N : Nat, N = n.toNat := ⟨_, rfl⟩
  have hmx : (if n < 0 then 0 else n) = (N : Int) := by split <;> omega
  have HA := Aside0.mk hr
  rw [← hN]
  obtain ⟨Q, hQ⟩ : ∃ Q : Nat, Q = N / 64 := ⟨_, rfl⟩
  obtain ⟨R, hR⟩ : ∃ R : Nat, R = N % 64 := ⟨_, rfl⟩
  have hd : (N : Int) / 64 = (Q : Int) := by omega
  have hm : (N : Int) % 64 = (R : Int) := by omega
  have hQb : Q ≤ 1099511627776 := by omega
  have hRb : R < 64 := by omega
  have HN := Aside0.mk (show N = 64 * Q + R by omega)
  clear hr hN hn hQ hR
  by_cases hq : la ≤ Q
  · go_enter Try.func26, Try.ntmps26
    go_wp2
    refine bodyPost_ret (results_tmp rfl _ _ _) rfl ?_
    have hz : val Num.W a / 2 ^ N = 0 := Nat.div_eq_of_lt (Nat.lt_of_lt_of_le (val_lt Num.W_pos hia) (by rw [HA.out.1, W_pow, HN.out]; exact Nat.pow_le_pow_right (by decide) (by omega)))
    rw [hz, dig_zero]
    exact ⟨_, rfl, Vw.nil _ _ _, Below.refl _ _⟩
  · obtain ⟨L, rfl⟩ : ∃ L, la = Q + L := ⟨la - Q, by omega⟩
    obtain ⟨ad, rfl, hcell⟩ := HA.out.2.2 (by omega)
    have hmk := fun W => run_make_len L (by omega) W
    have hsub : ((Q + L : Nat) : Int) - (Q : Int) = (L : Int) := by omega
    have hsub2 : (Q : Int) + (L : Int) - (Q : Int) = (L : Int) := by omega
    have hal : a.length = Q + L := HA.out.1
    have hdl : (a.drop Q).length = L := by simp [hal]
    have hb0 : Below w.heap.size w (w.alloc (.cells (madeCells #[.int .u64 0] L) 39)) := below_alloc (Below.refl _ _) _
    obtain ⟨w2, hcp, hrow, hbel, _, _⟩ := run_copy64 (w.alloc (.cells (madeCells #[.int .u64 0] L) 39)) w.heap.size 0 L L (List.replicate L 0) (Row64.made L) (ad.add Q) L (ca - Q) (a.drop Q) (by rw [hdl]; exact (Nat.min_self L).symm) (fun j hj => by
      have hr := (HA.out.toB.keep hb0).1
      obtain ⟨ad', e, hc⟩ := hr.2.2 (by omega)
      cases e
      rw [Addr.add_add, hc (Q + j) (by omega)]
      rw [List.getD_eq_getElem?_getD, List.getD_eq_getElem?_getD, List.getElem?_drop]) (by rw [hdl]; simp)
    have hdr : List.drop L (List.replicate L (0 : Int)) = [] := List.drop_of_length_le (by simp)
    rw [List.take_zero, List.nil_append, hdl, Nat.zero_add, hdr, List.append_nil] at hrow
    rw [hdl] at hcp
    have HROW := Aside0.mk hrow
    have HB2 := Aside0.mk (hbel w.heap.size w (Nat.le_refl _) hb0)
    have HDL := Aside0.mk hdl
    clear hal hdl hb0 hrow hbel hcell hdr
    go_enter Try.func26, Try.ntmps26
    go_wp2
    clear hcp hmk
    go_loopw [28] (fun i wr => ∃ k : Nat, k ≤ L ∧ i = .int .i64 k ∧ Aside0 (Row64 wr w.heap.size (mix R k (a.drop Q))) ∧ Aside0 (Below w.heap.size w wr)) (fun i _ => L - (intOf i).toNat)
    case atStart => exact ⟨0, by omega, rfl, HROW, HB2⟩
    case round =>
      obtain ⟨k, hk, rfl, HR, HB⟩ := hrel
      by_cases hlt : k < L
      · have hml : (mix R k (a.drop Q)).length = L := by rw [mix_length _ _ _ (by rw [HDL.out]; exact hk), HDL.out]
        have HRD := Aside0.mk (show Rd wr.drew (some ⟨w.heap.size, 0, none⟩) L (mix R k (a.drop Q)) from HR.out.rd hml (by omega))
        have hfk : wr.drew.frozen? ⟨w.heap.size, k, none⟩ = false := blk_frozen (w := wr) HR.out k
        have hck : wr.drew.cell? ⟨w.heap.size, k, none⟩ = some (.int .u64 ((a.drop Q).getD k 0)) := by
          rw [← mix_getD R k k _ (Nat.le_refl _) (by rw [HDL.out]; exact hk)]
          exact (blk_cell (w := wr) HR.out k).trans (nums_at _ k (by rw [hml]; exact hlt))
        have hat := nat_at (some ⟨w.heap.size, 0, none⟩) L L (mix R k (a.drop Q)) ((k : Int) + 1) wr.drew HRD.out
        rw [if_pos (by omega), show ((k : Int) + 1).toNat = k + 1 by omega, mix_getD R k (k + 1) _ (by omega) (by rw [HDL.out]; exact hk)] at hat
        have hms := mix_succ R k (a.drop Q) (by rw [HDL.out]; exact hlt)
        have hx : Wd ((a.drop Q).getD k 0) := inB_getD Num.W_pos (inB_drop hia Q) k
        have hy : Wd ((a.drop Q).getD (k + 1) 0) := inB_getD Num.W_pos (inB_drop hia Q) (k + 1)
        generalize (a.drop Q).getD k 0 = x at *
        generalize (a.drop Q).getD (k + 1) 0 = y at *
        have HAT := Aside0.mk hat
        have HMS := Aside0.mk hms
        clear hat hms hml
        have hmt : (N : Int).tmod 64 = (R : Int) := by rw [Int.tmod_eq_emod_of_nonneg (by omega)]; exact hm
        have h63 : IntKind.i64.wrap (63 - (R : Int)) = ((63 - R : Nat) : Int) := by rw [IntKind.wrap_i64]; omega
        have hor := sh_or R hRb hx hy
        have hk1w : IntKind.i64.wrap ((k : Int) + 1) = (k : Int) + 1 := by rw [IntKind.wrap_i64]; omega
        go_wp2
        go_region_with ((go_at_call 45); (with_reducible refine HAT.out.mono ?_); (rintro e w' ⟨rfl, rfl⟩))
        all_goals
          clear hor
          go_wp2
          go_roundw
          case rel => exact ⟨k + 1, by omega, by go_num, ⟨by rw [← HMS.out]; exact Row64.set (w := wr) HR.out k _⟩, ⟨(HB.out.setCell (p := ⟨w.heap.size, k, none⟩) (Nat.le_refl _) _).drew⟩⟩
          case measure => simp [intOf]; omega
      · obtain rfl : k = L := by omega
        have hma := mix_all R (a.drop Q) k HDL.out
        have hR := HR.out
        rw [hma] at hR
        have HI := Aside0.mk (shl_inB hRb (inB_drop hia Q))
        have HV := Aside0.mk (shr_val hia HN.out hRb (by rw [HA.out.1]; omega))
        have HRD := Aside0.mk (hR.rd (by rw [shl_length, HDL.out]) (by omega))
        clear hma hR
        go_wp2_with ((go_at_call 41); (refine (nat_norm' _ k k (shl R (a.drop Q)) _ HRD.out (Nat.le_refl _) HI.out).mono ?_); (rintro e w' ⟨j, hk1, hk2, rfl, rfl⟩))
        refine bodyPost_ret (results_tmp rfl _ _ _) rfl ?_
        rw [HV.out] at hk2
        refine ⟨_, rfl, Vw.of_Rd (n := j) ?_ (Nat.le_refl _) (fun ad e _ => by cases e; exact Nat.le_refl _), HB.out⟩
        rw [← hk2]
        exact HRD.out.take j (by have := HRD.out.1; omega)
def NLIM : Int := 1099511627776
def nat_Shr.f (l0 : List Int) (a1 : Int) : Option (List Int) := if inb l0 = true ∧ l0.length ≤ LIM ∧ a1 ≤ NLIM then some (dig W (val W l0 / 2 ^ a1.toNat)) else none
theorem nat_Shr.calls (A0 : Option Addr) (c0 : Nat) (l0 : List Int) (a1 : Int) (r : List Int) (w : World)
    (hr0 : Kd.C (Kd.int .u64) w A0 l0.length l0) (hc0 : l0.length ≤ c0) (h : nat_Shr.f l0 a1 = some r) :
    Calls Try.prog 26 #[.slice A0 l0.length c0, .int .i64 a1] w fun e w' => ∃ v0_ : Value, e = .returned (v0_) ∧ Kd.V (Kd.int .u64) 39 w' w.heap.size (fun k_ => (w.heap.size ≤ k_)) v0_ r ∧ Below w.heap.size w w' := by
  unfold nat_Shr.f at h
  split at h
  · rename_i hi
    cases h
    exact calls_of_new (nat_shr A0 _ c0 l0 a1 w (Rd.of_C hr0) hc0 (inb_iff.1 hi.1) hi.2.1 hi.2.2)
  · cases h
end Go.Proofs.Ytcgcffnhlafneaa.Hand

/- nat.Low by hand: a number's lowest bits: the row of the value's rest. Conditions: words, not too many. -/
namespace Go.Proofs.Ytcgcffnhlafneaa.Hand
open Go.RowKit Go.Proofs.YtcgcffnhlafneaaW.PrintWords Go.Proofs.YtcgcffnhlafneaaW.PrintMore Go.Proofs.Ytcgcffnhlafneaa.Num
set_option linter.unusedVariables false
set_option linter.unusedSimpArgs false
attribute [local go_sem] Oper.semAt_some max2_int min2_int max_two min_two

/-- What a call that hands back its argument's words, or new ones, leaves. -/
def SharePost (P0_ : Nat → Prop) (r : List Int) (w : World) (e : Ending) (w' : World) : Prop := ∃ v : Value, e = .returned v ∧ Vw w' w.heap.size (fun k => P0_ k ∨ w.heap.size ≤ k) v r ∧ Below w.heap.size w w'
theorem Rd.drew {w : World} {A : Option Addr} {n : Nat} {l : List Int} (h : Rd w A n l) : Rd w.drew A n l := h
theorem low_val {a : List Int} (ha : InB W a) {N Q R : Nat} (hN : N = 64 * Q + R) (hR : R < 64) (hQ : Q < a.length) : val W (a.take Q ++ [((((a.getD Q 0).toNat % 2 ^ R : Nat)) : Int)]) = val W a % 2 ^ N := by
  have hl : (a.take Q).length = Q := by simp; omega
  rw [val_snoc, hl, Int.toNat_natCast, hN, Nat.pow_add, ← W_pow, Nat.mod_mul, val_take_mod W_pos ha Q (by omega), ← val_drop_div W_pos ha Q (by omega), val_mod_pow hR, List.getD_eq_getElem?_getD, List.getD_eq_getElem?_getD, List.getElem?_drop, Nat.add_zero]
theorem mask_at (x R : Nat) (hx : x < 18446744073709551616) (hR : R < 64) : bits BinOp.and IntKind.u64 (x : Int) (((2 ^ R - 1 : Nat)) : Int) = ((x % 2 ^ R : Nat) : Int) := by
  have h1 : 2 ^ R ≤ 2 ^ 63 := Nat.pow_le_pow_right (by decide) (by omega)
  rw [bits_and_u64_nat x _ hx (by omega), Nat.and_two_pow_sub_one_eq_mod]

theorem mask_wr (R : Nat) (hR : R < 64) : IntKind.u64.wrap (IntKind.u64.wrap (2 ^ R) - 1) = ((2 ^ R - 1 : Nat) : Int) := by
  have h1 : 2 ^ R ≤ 2 ^ 63 := Nat.pow_le_pow_right (by decide) (by omega)
  have h2 := Nat.two_pow_pos R
  have e : ((2 : Int) ^ R) = ((2 ^ R : Nat) : Int) := by simp
  rw [IntKind.wrap_u64, IntKind.wrap_u64, e]
  generalize 2 ^ R = p at *
  omega

def nat_Low.f (l0 : List Int) (a1 : Int) : Option (List Int) := if inb l0 = true ∧ l0.length ≤ LIM ∧ a1 ≤ NLIM then some (dig W (val W l0 % 2 ^ a1.toNat)) else none
end Go.Proofs.Ytcgcffnhlafneaa.Hand

/- nat.Shl by hand: a number, moved up: the row of the value times a power of 2; new memory alone is written. Conditions: words, not too many. -/
namespace Go.Proofs.Ytcgcffnhlafneaa.Hand
open Go.RowKit Go.Proofs.YtcgcffnhlafneaaW.PrintWords Go.Proofs.YtcgcffnhlafneaaW.PrintMore Go.Proofs.Ytcgcffnhlafneaa.Num
set_option linter.unusedVariables false
set_option linter.unusedSimpArgs false
attribute [local go_sem] Oper.semAt_some max2_int min2_int max_two min_two

/-- How the call's own memory stands: the count (block B), the row (B + 1), the variable out, the variable keep. -/
structure ShlSt (B L N : Nat) (row : List Int) (kp : Int) (W : World) : Prop where
  bn : Boxed W B 3 (.int .i64 (N : Int))
  rw : Row64 W (B + 1) row
  bo : Boxed W (B + 1 + 1) 22 (.slice (some ⟨B + 1, 0, none⟩) L L)
  bk : Boxed W (B + 1 + 1 + 1) 39 (.int .u64 kp)
def shLo (R : Nat) (x kp : Int) : Int := ((x.toNat * 2 ^ R % 18446744073709551616 + kp.toNat : Nat) : Int)
def shHi (R : Nat) (x : Int) : Int := ((x.toNat / 2 ^ (64 - R) : Nat) : Int)
theorem ShlSt.step {B L N R i : Nat} {row : List Int} {kp x : Int} {W : World} (h : ShlSt B L N row kp W) :
    ShlSt B L N (row.set i (shLo R x kp)) (shHi R x) ((W.setCell ⟨B + 1, i, none⟩ (.int .u64 (shLo R x kp))).setCell ⟨B + 1 + 1 + 1, 0, none⟩ (.int .u64 (shHi R x))) := by
  have e : ∀ (W' : World) (b j : Nat) (o : Nat) (v : Value), j ≠ b → (W'.setCell ⟨b, o, none⟩ v).heap[j]? = W'.heap[j]? := fun W' b j o v hj => Below.heap_setCell _ _ _ _ (by simpa using hj)
  have bk1 : Boxed (W.setCell ⟨B + 1, i, none⟩ (.int .u64 (shLo R x kp))) (B + 1 + 1 + 1) 39 (.int .u64 kp) := (e _ _ _ _ _ (by omega)).trans h.bk
  refine ⟨?_, ?_, ?_, bk1.set _⟩
  · exact ((e _ _ _ _ _ (by omega)).trans (e _ _ _ _ _ (by omega))).trans h.bn
  · exact (e _ _ _ _ _ (by omega)).trans (h.rw.set i _)
  · exact ((e _ _ _ _ _ (by omega)).trans (e _ _ _ _ _ (by omega))).trans h.bo
theorem shl_keep (R : Nat) (hR : R < 64) {x : Int} (hx : Wd x) : x / 2 / 2 ^ (63 - R) = shHi R x := by
  obtain ⟨x, rfl⟩ := Int.eq_ofNat_of_zero_le hx.1
  have e : ((2 : Int) ^ (63 - R)) = ((2 ^ (63 - R) : Nat) : Int) := by simp
  have e2 : 2 ^ (64 - R) = 2 * 2 ^ (63 - R) := by rw [Nat.mul_comm, ← Nat.pow_succ, Nat.succ_eq_add_one, show 63 - R + 1 = 64 - R by omega]
  rw [e, shHi, Int.toNat_natCast, e2, ← Nat.div_div_eq_div_mul]
  rfl
theorem shl_or (R : Nat) (hR : R < 64) {x kp : Int} (hx : Wd x) (hk : 0 ≤ kp ∧ kp.toNat < 2 ^ R) : bits BinOp.or IntKind.u64 (IntKind.u64.wrap (x * 2 ^ R)) kp = shLo R x kp := by
  obtain ⟨x, rfl⟩ := Int.eq_ofNat_of_zero_le hx.1
  obtain ⟨kp, rfl⟩ := Int.eq_ofNat_of_zero_le hk.1
  have hk2 := hk.2
  rw [Int.toNat_natCast] at hk2
  have e : ((2 : Int) ^ R) = ((2 ^ R : Nat) : Int) := by simp
  have e1 : ((x : Int) * ((2 ^ R : Nat) : Int)) % 18446744073709551616 = ((x * 2 ^ R % 18446744073709551616 : Nat) : Int) := rfl
  have hW : (18446744073709551616 : Nat) = 2 ^ (64 - R) * 2 ^ R := by rw [← Nat.pow_add, show 64 - R + R = 64 by omega]
  have e3 : x * 2 ^ R % 18446744073709551616 = 2 ^ R * (x % 2 ^ (64 - R)) := by rw [hW, Nat.mul_mod_mul_right, Nat.mul_comm]
  have hp : 2 ^ R ≤ 18446744073709551616 := by rw [hW]; exact Nat.le_mul_of_pos_left _ (Nat.two_pow_pos _)
  rw [IntKind.wrap_u64, e, e1, bits_or_u64_nat _ _ (Nat.mod_lt _ (by decide)) (by omega), e3, ← Nat.two_pow_add_eq_or_of_lt hk2, shLo, Int.toNat_natCast, Int.toNat_natCast, e3]

set_option maxRecDepth 100000 in
set_option maxHeartbeats 2000000 in
theorem shl1 (B L N Q R i : Nat) (row : List Int) (kp x : Int) (w : World) (h : ShlSt B L N row kp w) (hN : N = 64 * Q + R) (hRb : R < 64) (hl : row.length = L) (hi : i < L)
    (hxe : row.getD i 0 = x) (hx : Wd x) (hk : 0 ≤ kp ∧ kp.toNat < 2 ^ R) :
    Calls Try.prog 48 #[.int .i64 (i : Int), .pointer (some ⟨B + 1 + 1, 0, none⟩), .pointer (some ⟨B, 0, none⟩), .pointer (some ⟨B + 1 + 1 + 1, 0, none⟩)] w fun e w' =>
      e = .returned (.tuple #[]) ∧ ShlSt B L N (row.set i (shLo R x kp)) (shHi R x) w' ∧ Below B w w' := by
  have hm : (N : Int) % 64 = (R : Int) := by omega
  have hmt : (N : Int).tmod 64 = (R : Int) := by rw [Int.tmod_eq_emod_of_nonneg (by omega)]; exact hm
  have h63 : IntKind.i64.wrap (63 - (R : Int)) = ((63 - R : Nat) : Int) := by rw [IntKind.wrap_i64]; omega
  have qn : w.drew.cell? ⟨B, 0, none⟩ = _ := h.bn.cell
  have qo : w.drew.cell? ⟨B + 1 + 1, 0, none⟩ = _ := h.bo.cell
  have qk : w.drew.cell? ⟨B + 1 + 1 + 1, 0, none⟩ = _ := h.bk.cell
  have fk : w.drew.frozen? ⟨B + 1 + 1 + 1, 0, none⟩ = false := h.bk.frozen
  have qr0 := (blk_cell h.rw i).trans (nums_at row i (by omega))
  rw [hxe] at qr0
  have qr : w.drew.cell? ⟨B + 1, i, none⟩ = _ := qr0
  have fr : w.drew.frozen? ⟨B + 1, i, none⟩ = false := blk_frozen h.rw i
  have hor := shl_or R hRb hx hk
  have hkp := shl_keep R hRb hx
  have qo1 : w.cell? ⟨B + 1 + 1, 0, none⟩ = _ := h.bo.cell
  have qn1 : w.cell? ⟨B, 0, none⟩ = _ := h.bn.cell
  have qk1 : w.cell? ⟨B + 1 + 1 + 1, 0, none⟩ = _ := h.bk.cell
  have fk1 : w.frozen? ⟨B + 1 + 1 + 1, 0, none⟩ = false := h.bk.frozen
  have H := Aside0.mk h
  clear h hxe hN
  go_enter Try.func48, Try.ntmps48
  go_wp2
  go_region
  all_goals
    go_wp2
    go_end0
    have hst := H.out.step (R := R) (i := i) (x := x)
    exact ⟨rfl, ⟨hst.bn, hst.rw, hst.bo, hst.bk⟩, (((Below.refl B w).setCell (p := ⟨B + 1, i, none⟩) (by simp) _).setCell (p := ⟨B + 1 + 1 + 1, 0, none⟩) (by simp; omega) _).drew⟩

/-- What has been made of a number's first words: the words of the product with 2^R, and what is kept. -/
structure ShlInv (R : Nat) (pre out : List Int) (kp : Int) : Prop where
  len : out.length = pre.length
  inb : InB W out
  k0 : 0 ≤ kp ∧ kp.toNat < 2 ^ R
  val : val W out + W ^ pre.length * kp.toNat = val W pre * 2 ^ R
theorem ShlInv.nil (R : Nat) : ShlInv R [] [] 0 := ⟨rfl, inB_nil _, ⟨Int.le_refl _, Nat.two_pow_pos R⟩, by simp [Num.val]⟩
theorem ShlInv.snoc {R : Nat} (hR : R < 64) {pre out : List Int} {kp x : Int} (h : ShlInv R pre out kp) (hx : Wd x) : ShlInv R (pre ++ [x]) (out ++ [shLo R x kp]) (shHi R x) := by
  have hv := h.val
  have hl := h.len
  have hi := h.inb
  obtain ⟨k0, k1⟩ := h.k0
  clear h
  obtain ⟨x, rfl⟩ := Int.eq_ofNat_of_zero_le hx.1
  obtain ⟨kp, rfl⟩ := Int.eq_ofNat_of_zero_le k0
  have hx2 := hx.2
  rw [Int.toNat_natCast] at k1 hv
  have hW : (18446744073709551616 : Nat) = 2 ^ (64 - R) * 2 ^ R := by rw [← Nat.pow_add, show 64 - R + R = 64 by omega]
  have e3 : x * 2 ^ R % 18446744073709551616 = 2 ^ R * (x % 2 ^ (64 - R)) := by rw [hW, Nat.mul_mod_mul_right, Nat.mul_comm]
  have hm := Nat.mod_lt x (Nat.two_pow_pos (64 - R))
  have e4 : 2 ^ R * (x % 2 ^ (64 - R)) + 2 ^ R ≤ 18446744073709551616 := by
    rw [hW, Nat.mul_comm (2 ^ (64 - R)), ← Nat.mul_succ]
    exact Nat.mul_le_mul_left _ hm
  have e5 : x / 2 ^ (64 - R) < 2 ^ R := Nat.div_lt_of_lt_mul (by rw [← hW]; omega)
  have e6 : shLo R (x : Int) (kp : Int) = ((2 ^ R * (x % 2 ^ (64 - R)) + kp : Nat) : Int) := by rw [shLo, Int.toNat_natCast, Int.toNat_natCast, e3]
  have e7 : shHi R (x : Int) = ((x / 2 ^ (64 - R) : Nat) : Int) := by rw [shHi, Int.toNat_natCast]
  have e8 : 2 ^ R * (x % 2 ^ (64 - R)) + W * (x / 2 ^ (64 - R)) = x * 2 ^ R := by
    have h1 := Nat.mod_add_div x (2 ^ (64 - R))
    have h2 : W = 2 ^ R * 2 ^ (64 - R) := by rw [Nat.mul_comm]; exact hW
    rw [h2, Nat.mul_assoc, ← Nat.mul_add, h1, Nat.mul_comm]
  rw [e6, e7]
  refine ⟨by simp [hl], inB_append.2 ⟨hi, inB_cons.2 ⟨⟨by omega, by have := W_eq; omega⟩, inB_nil _⟩⟩, ⟨Int.natCast_nonneg _, by rw [Int.toNat_natCast]; exact e5⟩, ?_⟩
  rw [val_snoc, val_snoc, hl, List.length_append, List.length_singleton, Nat.pow_succ, Int.toNat_natCast, Int.toNat_natCast, Int.toNat_natCast, Nat.add_mul, ← hv, Nat.mul_assoc (W ^ pre.length) x, ← e8]
  generalize 2 ^ R * (x % 2 ^ (64 - R)) = p
  generalize x / 2 ^ (64 - R) = q
  rw [Nat.mul_add, Nat.mul_add, Nat.mul_assoc]
  omega
theorem shl_row_at (Q k : Nat) (out D : List Int) (hl : out.length = k) : (List.replicate Q 0 ++ out ++ D.drop k).getD (Q + k) 0 = D.getD k 0 := by
  rw [List.getD_eq_getElem?_getD, List.getElem?_append_right (by simp [hl]), List.getD_eq_getElem?_getD]
  simp [hl]
theorem shl_row_set (Q k : Nat) (out D : List Int) (v : Int) (hl : out.length = k) (hk : k < D.length) : (List.replicate Q 0 ++ out ++ D.drop k).set (Q + k) v = List.replicate Q 0 ++ (out ++ [v]) ++ D.drop (k + 1) := by
  have e : (D.drop k).set 0 v = v :: D.drop (k + 1) := by rw [List.drop_eq_getElem_cons hk]; rfl
  rw [List.set_append_right _ _ (by simp [hl])]
  simp [hl, e]
theorem shl_row_len (Q k : Nat) (out D : List Int) (hl : out.length = k) (hk : k ≤ D.length) : (List.replicate Q (0 : Int) ++ out ++ D.drop k).length = Q + D.length := by
  simp [hl]; omega
theorem ShlInv.done {R Q N m v : Nat} {D out : List Int} {kp : Int} (h : ShlInv R D out kp) (hD : D.length = m + 1) (hv : Num.val W D = v) (hlt : v < W ^ m) (hR : R < 64) (hN : N = 64 * Q + R) :
    InB W (List.replicate Q 0 ++ out) ∧ Num.val W (List.replicate Q 0 ++ out) = v * 2 ^ N := by
  have hval := h.val
  rw [hv, hD] at hval
  have hkp : kp.toNat = 0 := by
    rcases Nat.eq_zero_or_pos kp.toNat with h0 | h0
    · exact h0
    · have h1 : v * 2 ^ R < W ^ (m + 1) := by
        have h2 : 2 ^ R ≤ W := Nat.pow_le_pow_right (by decide) (Nat.le_of_lt hR)
        rw [Nat.pow_succ]
        exact Nat.lt_of_lt_of_le (Nat.mul_lt_mul_of_pos_right hlt (Nat.two_pow_pos R)) (Nat.mul_le_mul_left _ h2)
      have h3 := Nat.mul_le_mul_left (W ^ (m + 1)) h0
      rw [Nat.succ_eq_add_one, Nat.zero_add, Nat.mul_one] at h3
      omega
  rw [hkp, Nat.mul_zero, Nat.add_zero] at hval
  refine ⟨inB_append.2 ⟨inB_replicate W_pos Q, h.inb⟩, ?_⟩
  rw [val_append, val_replicate, List.length_replicate, hval, W_pow, hN, Nat.pow_add, Nat.zero_add, ← Nat.mul_assoc, Nat.mul_comm (2 ^ (64 * Q)) v, Nat.mul_assoc]

set_option maxRecDepth 100000 in
set_option maxHeartbeats 2000000 in
theorem nat_shl (A : Option Addr) (la ca : Nat) (a : List Int) (n : Int) (w : World) (hr : Rd w A la a) (hla : la ≤ ca) (hia : InB Num.W a) (hna : la ≤ 17592186044400) (hn : n ≤ 1099511627776) :
    Calls Try.prog 29 #[.slice A la ca, .int .i64 n] w (NewPost (dig Num.W (val Num.W a * 2 ^ n.toNat)) w) := by
  obtain ⟨N, hN⟩ : ∃ N : Nat, N = n.toNat := ⟨_, rfl⟩
  have hmx : (if n < 0 then 0 else n) = (N : Int) := by split <;> omega
  rw [← hN]
  obtain ⟨Q, hQ⟩ : ∃ Q : Nat, Q = N / 64 := ⟨_, rfl⟩
  obtain ⟨R, hR⟩ : ∃ R : Nat, R = N % 64 := ⟨_, rfl⟩
  have hd : (N : Int) / 64 = (Q : Int) := by omega
  have hm : (N : Int) % 64 = (R : Int) := by omega
  have hdt : (N : Int).tdiv 64 = (Q : Int) := by rw [Int.tdiv_eq_ediv_of_nonneg (by omega)]; exact hd
  have hmt : (N : Int).tmod 64 = (R : Int) := by rw [Int.tmod_eq_emod_of_nonneg (by omega)]; exact hm
  have hQb : Q ≤ 1099511627776 := by omega
  have hRb : R < 64 := by omega
  have HN := Aside0.mk (show N = 64 * Q + R by omega)
  have HA := Aside0.mk hr
  have hrd := hr.allocS (.cells #[.int .i64 (N : Int)] 3)
  have hnc := nat_norm_at A la ca a _ hrd hla hia
  obtain ⟨hf1, hf2⟩ := norm_facts hia
  obtain ⟨m, hml⟩ : ∃ m, m = (dig Num.W (val Num.W a)).length := ⟨_, rfl⟩
  rw [← hml] at hnc hf1 hf2
  have hal : a.length = la := hr.1
  rw [hal] at hf1
  rcases Nat.eq_zero_or_pos m with h0 | h0
  · subst h0
    have hv0 : val Num.W a = 0 := (dig_eq_nil Num.W_gt).1 (List.eq_nil_of_length_eq_zero hml.symm)
    rw [hv0, Nat.zero_mul, dig_zero]
    have HNC := Aside0.mk hnc
    clear hr hN hn hQ hR hrd hnc hf1 hf2 hml hv0 hal
    go_enter Try.func29, Try.ntmps29
    go_wp2_with ((go_at_call 41); (refine HNC.out.mono ?_); (rintro e w' ⟨rfl, rfl⟩))
    refine bodyPost_ret (results_tmp rfl _ _ _) rfl ?_
    exact ⟨_, rfl, Vw.nil _ _ _, below_alloc (Below.refl _ _) _⟩
  · have HNC := Aside0.mk hnc
    have hmk : ∀ W : World, (Instr.makeSlice 22 (.int .i64 ((m : Int) + (Q : Int) + 1)) (.int .i64 ((m : Int) + (Q : Int) + 1))).run Try.prog W = .ok (.slice (some ⟨W.heap.size, 0, none⟩) (m + Q + 1) (m + Q + 1)) (W.alloc (.cells (madeCells #[.int .u64 0] (m + Q + 1)) 39)) := fun W => run_make_len (m + Q + 1) (by omega) W
    obtain ⟨ad, rfl, hcell⟩ := HA.out.2.2 (by omega)
    have hb0 : Below w.heap.size w (((w.alloc (.cells #[.int .i64 (N : Int)] 3)).alloc (.cells (madeCells #[.int .u64 0] (m + Q + 1)) 39)).alloc (.cells #[.slice (some ⟨w.heap.size + 1, 0, none⟩) (m + Q + 1) (m + Q + 1)] 22)) := below_alloc (below_alloc (below_alloc (Below.refl _ _) _) _) _
    have hrow0 : Row64 (((w.alloc (.cells #[.int .i64 (N : Int)] 3)).alloc (.cells (madeCells #[.int .u64 0] (m + Q + 1)) 39)).alloc (.cells #[.slice (some ⟨w.heap.size + 1, 0, none⟩) (m + Q + 1) (m + Q + 1)] 22)) (w.heap.size + 1) (List.replicate (m + Q + 1) 0) := by
      have h := Row64.made (w := w.alloc (.cells #[.int .i64 (N : Int)] 3)) (m + Q + 1)
      rw [World.size_alloc] at h
      exact blk_alloc h _
    have hdl : (a.take m).length = m := by simp [hal, hf1]
    obtain ⟨w2, hcp, hrow, hbel, hsz, hoth⟩ := run_copy64 _ (w.heap.size + 1) Q (m + Q + 1 - Q) (m + Q + 1 - Q) _ hrow0 ad m m (a.take m) (by rw [hdl]; exact (Nat.min_eq_left (by omega)).symm) (fun j hj => by
      have hr := (HA.out.toB.keep hb0).1
      obtain ⟨ad', e, hc⟩ := hr.2.2 (by omega)
      cases e
      rw [hc j (by omega)]
      rw [List.getD_eq_getElem?_getD, List.getD_eq_getElem?_getD, List.getElem?_take, if_pos (by omega)]) (by rw [hdl]; simp; omega)
    rw [hdl] at hcp
    simp only [World.size_alloc] at hsz
    obtain ⟨d, hdd⟩ : ∃ d, d = dig Num.W (val Num.W a) := ⟨_, rfl⟩
    have hdi : InB Num.W d := by rw [hdd]; exact dig_inB Num.W_gt _
    have hdv : val Num.W d = val Num.W a := by rw [hdd]; exact val_dig Num.W_gt _
    rw [← hdd] at hml hf2
    have hdlt : val Num.W a < Num.W ^ m := by rw [← hdv, hml]; exact val_lt Num.W_pos hdi
    have hDl : (d ++ [0]).length = m + 1 := by simp [hml]
    have hDv : val Num.W (d ++ [0]) = val Num.W a := by rw [val_snoc, hdv]; simp
    have hDi : InB Num.W (d ++ [0]) := inB_append.2 ⟨hdi, inB_replicate Num.W_pos 1⟩
    have er : List.take Q (List.replicate (m + Q + 1) (0 : Int)) ++ a.take m ++ List.drop (Q + m) (List.replicate (m + Q + 1) 0) = List.replicate Q 0 ++ [] ++ (d ++ [0]).drop 0 := by
      rw [List.take_replicate, List.drop_replicate, hf2, show m + Q + 1 - (Q + m) = 1 by omega, Nat.min_eq_left (by omega)]
      simp
    rw [hdl, er] at hrow
    generalize hDD : d ++ [0] = D at *
    have hst : ShlSt w.heap.size (m + Q + 1) N (List.replicate Q 0 ++ [] ++ D.drop 0) 0 (w2.alloc (.cells #[.int .u64 0] 39)) := by
      have b1 := Boxed.new w2 39 (.int .u64 0)
      rw [hsz] at b1
      refine ⟨?_, blk_alloc hrow _, ?_, b1⟩
      · refine Boxed.alloc ?_ _
        refine (hoth w.heap.size (by omega)).trans ?_
        exact blk_alloc (blk_alloc (blk_new w _) _) _
      · refine Boxed.alloc ?_ _
        refine (hoth (w.heap.size + 1 + 1) (by omega)).trans ?_
        have := blk_new ((w.alloc (.cells #[.int .i64 (N : Int)] 3)).alloc (.cells (madeCells #[.int .u64 0] (m + Q + 1)) 39)) (.cells #[.slice (some ⟨w.heap.size + 1, 0, none⟩) (m + Q + 1) (m + Q + 1)] 22)
        rw [World.size_alloc, World.size_alloc] at this
        exact this
    have qn : w2.cell? ⟨w.heap.size, 0, none⟩ = some (.int .i64 (N : Int)) := blk_cell ((hoth w.heap.size (by omega)).trans (blk_alloc (blk_alloc (blk_new w _) _) _)) 0
    have hm0 : ((m : Int) == 0) = false := by rw [beq_eq_false_iff_ne]; omega
    have HST := Aside0.mk hst
    have HB2 := Aside0.mk (hbel w.heap.size w (by omega) hb0)
    have HDI := Aside0.mk hDi
    have HDL := Aside0.mk hDl
    have HDV := Aside0.mk hDv
    have HDLT := Aside0.mk hdlt
    clear hr hN hn hQ hR hrd hnc hf2 hml hal hrow hoth hbel hb0 hrow0 hdl hcell hst hDi hDl hDv hdlt hdd hdi hdv er hDD
    go_enter Try.func29, Try.ntmps29
    go_wp2_with ((go_at_call 41); (refine HNC.out.mono ?_); (rintro e w' ⟨rfl, rfl⟩))
    clear hcp hmk qn
    go_loopw [8] (fun i wr => ∃ (k : Nat) (out : List Int) (kp : Int), k ≤ m + 1 ∧ i = .int .i64 ((Q : Int) + (k : Int)) ∧ Aside0 (ShlInv R (D.take k) out kp) ∧ Aside0 (ShlSt w.heap.size (m + Q + 1) N (List.replicate Q 0 ++ out ++ D.drop k) kp wr) ∧ Aside0 (Below w.heap.size w wr)) (fun i _ => Q + m + 1 - (intOf i).toNat)
    case atStart => exact ⟨0, [], 0, by omega, by go_num, ⟨ShlInv.nil R⟩, HST, ⟨below_alloc HB2.out _⟩⟩
    case round =>
      obtain ⟨k, out, kp, hk, rfl, HI, HS, HB⟩ := hrel
      by_cases hlt : k < m + 1
      · have qo := HS.out.bo.cell
        have hlen : out.length = k := by rw [HI.out.len, List.length_take, HDL.out]; omega
        have hkD : k < D.length := by rw [HDL.out]; exact hlt
        have hxw : Wd (D.getD k 0) := inB_getD Num.W_pos HDI.out k
        have hsh := shl1 w.heap.size (m + Q + 1) N Q R (Q + k) _ kp (D.getD k 0) wr HS.out HN.out hRb (by rw [shl_row_len Q k out D hlen (by omega), HDL.out]; omega) (by omega) (shl_row_at Q k out D hlen) hxw HI.out.k0
        rw [shl_row_set Q k out D _ hlen hkD] at hsh
        have HX := Aside0.mk ((HI.out).snoc hRb hxw)
        have HT := Aside0.mk (take_snoc D k hkD)
        have HSH := Aside0.mk hsh
        clear hsh hxw hlen hkD
        go_wp2_with ((go_at_call 48); (refine HSH.out.mono ?_); (rintro e w4 ⟨rfl, hst4, hbel4⟩); (have HST4 := Aside0.mk hst4); (have HB4 := Aside0.mk hbel4); (clear hst4 hbel4))
        refine ⟨⟨k + 1, _, _, by omega, by go_num, ⟨by rw [HT.out]; exact HX.out⟩, HST4, ⟨HB.out.trans HB4.out⟩⟩, by simp [intOf]; omega⟩
      · obtain rfl : k = m + 1 := by omega
        have qo := HS.out.bo.cell
        have hI := HI.out
        have hS := HS.out.rw
        rw [List.take_of_length_le (by rw [HDL.out]; exact Nat.le_refl _)] at hI
        have hdn := hI.done (Q := Q) HDL.out HDV.out HDLT.out hRb HN.out
        rw [List.drop_of_length_le (by rw [HDL.out]; exact Nat.le_refl _), List.append_nil] at hS
        have hrd := hS.rd (n := m + Q + 1) (by simp [hI.len, HDL.out]; omega) (by omega)
        have HRD := Aside0.mk hrd
        have HDN := Aside0.mk hdn
        clear hI hS hdn hrd
        go_wp2_with ((go_at_call 41); (refine (nat_norm' _ (m + Q + 1) (m + Q + 1) _ _ HRD.out (Nat.le_refl _) HDN.out.1).mono ?_); (rintro e w' ⟨j, hk1, hk2, rfl, rfl⟩))
        refine bodyPost_ret (results_tmp rfl _ _ _) rfl ?_
        rw [HDN.out.2] at hk2
        refine ⟨_, rfl, Vw.of_Rd (n := j) ?_ (Nat.le_refl _) (fun ad e _ => by cases e; exact Nat.le_succ _), HB.out⟩
        rw [← hk2]
        exact HRD.out.take j (by have := HRD.out.1; omega)

def SLIM : Nat := 1099511627776
def nat_Shl.f (l0 : List Int) (a1 : Int) : Option (List Int) := if inb l0 = true ∧ l0.length ≤ SLIM ∧ a1 ≤ NLIM then some (dig W (val W l0 * 2 ^ a1.toNat)) else none
theorem nat_Shl.calls (A0 : Option Addr) (c0 : Nat) (l0 : List Int) (a1 : Int) (r : List Int) (w : World)
    (hr0 : Kd.C (Kd.int .u64) w A0 l0.length l0) (hc0 : l0.length ≤ c0) (h : nat_Shl.f l0 a1 = some r) :
    Calls Try.prog 29 #[.slice A0 l0.length c0, .int .i64 a1] w fun e w' => ∃ v0_ : Value, e = .returned (v0_) ∧ Kd.V (Kd.int .u64) 39 w' w.heap.size (fun k_ => (w.heap.size ≤ k_)) v0_ r ∧ Below w.heap.size w w' := by
  unfold nat_Shl.f at h
  split at h
  · rename_i hi
    cases h
    exact calls_of_new (nat_shl A0 _ c0 l0 a1 w (Rd.of_C hr0) hc0 (inb_iff.1 hi.1) (Nat.le_trans hi.2.1 (by decide)) hi.2.2)
  · cases h
theorem readsRow_len {α : Type} {R : α → List Value → Prop} {size : Nat} {w : World} {A : Option Addr} {n m : Nat} {ps : List α} (h : n = m) (hr : ReadsRow R size w A n ps) : ReadsRow R size w A m ps := h ▸ hr
end Go.Proofs.Ytcgcffnhlafneaa.Hand
