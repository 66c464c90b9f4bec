/- nat.pairs by hand: the iterator over the words of two numbers: to whatever loop body that keeps its two boxes and what lay below n0, all pairs come in order. -/
import Derived.Test.YtgoglfojjpibnaaHNatA
import Derived.RegionIn
import Derived.Stop.RegionWithIn
namespace Go.Proofs.Ytgoglfojjpibnaa.Hand
open Go.RowKit Go.Proofs.YtgoglfojjpibnaaW.PrintWords Go.Proofs.YtgoglfojjpibnaaW.PrintMore Go.Proofs.Ytgoglfojjpibnaa.Num
set_option linter.unusedVariables false
set_option linter.unusedSimpArgs false
attribute [local go_sem] Oper.semAt_some max2_int min2_int max_two min_two

theorem rd_wd {a : List Int} (h : InB W a) (k : Nat) : 0 ≤ a[k]?.getD 0 ∧ a[k]?.getD 0 < 18446744073709551616 := by
  have := inB_getD W_pos h k
  rw [List.getD_eq_getElem?_getD] at this
  exact this
/-- Two words. -/
abbrev WW := { x : Int × Int // Wd x.1 ∧ Wd x.2 }
/-- The pair of words at a place. -/
def pairAt {a b : List Int} (ha : InB W a) (hb : InB W b) (k : Nat) : WW := ⟨(a[k]?.getD 0, b[k]?.getD 0), rd_wd ha k, rd_wd hb k⟩
def upto {α : Type} (f : Nat → α) (k : Nat) : List α := (List.range k).map f
theorem upto_succ {α : Type} (f : Nat → α) (k : Nat) : upto f (k + 1) = upto f k ++ [f k] := by simp [upto, List.range_succ]
theorem upto_length {α : Type} (f : Nat → α) (k : Nat) : (upto f k).length = k := by simp [upto]
/-- What a round keeps: all below n0, and the two boxes. -/
structure KeepB (n0 Ba Bb : Nat) (W W' : World) : Prop where
  below : Below n0 W W'
  ba : W'.heap[Ba]? = W.heap[Ba]?
  bb : W'.heap[Bb]? = W.heap[Bb]?
theorem KeepB.refl (n0 Ba Bb : Nat) (W : World) : KeepB n0 Ba Bb W W := ⟨Below.refl _ _, rfl, rfl⟩
theorem KeepB.trans {n0 Ba Bb : Nat} {A B C : World} (h : KeepB n0 Ba Bb A B) (k : KeepB n0 Ba Bb B C) : KeepB n0 Ba Bb A C := ⟨h.below.trans k.below, k.ba.trans h.ba, k.bb.trans h.bb⟩
/-- A number's words lie below n0. -/
def RdB (n0 : Nat) (w : World) (A : Option Addr) (n : Nat) (l : List Int) : Prop := Rd w A n l ∧ ∀ ad, A = some ad → 0 < n → ad.block < n0
theorem RdB.keep {n0 : Nat} {w w' : World} {A : Option Addr} {n : Nat} {l : List Int} (h : RdB n0 w A n l) (hb : Below n0 w w') : RdB n0 w' A n l :=
  ⟨⟨h.1.1, h.1.2.1, fun hn => by
    obtain ⟨ad, e, hc⟩ := h.1.2.2 hn
    refine ⟨ad, e, fun j hj => ?_⟩
    rw [hb.cell (p := ad.add j) (by rw [block_add]; exact h.2 ad e hn)]
    exact hc j hj⟩, h.2⟩

theorem yout {e : Ending} {P Q : Prop} (h : (e = .returned (.bool true) ∧ P) ∨ (e = .returned (.bool false) ∧ Q)) : ∃ bb : Bool, e = .returned (.bool bb) ∧ Aside0 ((bb = true ∧ P) ∨ (bb = false ∧ Q)) := by
  rcases h with ⟨rfl, h⟩ | ⟨rfl, h⟩
  · exact ⟨true, rfl, ⟨.inl ⟨rfl, h⟩⟩⟩
  · exact ⟨false, rfl, ⟨.inr ⟨rfl, h⟩⟩⟩

set_option maxRecDepth 100000 in
set_option maxHeartbeats 400000 in
theorem pairs1_in (n : Nat) (hn : 1 ≤ n) (lp Ba Bb n0 na nb ca cb : Nat) (Aa Ab : Option Addr) (a b : List Int) (hia : InB Num.W a) (hib : InB Num.W b) (J Jx : List WW → World → Prop)
    (hY : ∀ pre x W, J pre W → pre.length < max na nb → YieldAt Fence.wide (n - 1) Try.prog lp #[.int .u64 x.1.1, .int .u64 x.1.2] W fun e W' =>
      (e = .returned (.bool true) ∧ J (pre ++ [x]) W' ∧ KeepB n0 Ba Bb W W') ∨ (e = .returned (.bool false) ∧ Jx (pre ++ [x]) W'))
    (hJd : ∀ pre W, J pre W → J pre W.drew)
    (W : World) (hba : W.heap[Ba]? = some (.cells #[.slice Aa na ca] 22 (0, 0))) (hbb : W.heap[Bb]? = some (.cells #[.slice Ab nb cb] 22 (0, 0)))
    (ha : RdB n0 W Aa na a) (hb : RdB n0 W Ab nb b) (h0 : J [] W) :
    CallsIn Fence.wide n Try.prog 48 #[.func (.yield lp) #[] #[], .pointer (some ⟨Ba, 0, none⟩), .pointer (some ⟨Bb, 0, none⟩)] W fun e W' => (∃ v, e = .returned v) ∧
      ((∃ ys, ys = upto (pairAt hia hib) (max na nb) ∧ J ys W') ∨ (∃ pre, (∃ k, k ≤ max na nb ∧ pre = upto (pairAt hia hib) k) ∧ Jx pre W')) := by
  have hma := ha.1.2.1
  have hmb := hb.1.2.1
  obtain ⟨m, hm⟩ : ∃ m, m = max na nb := ⟨_, rfl⟩
  rw [← hm] at hY ⊢
  have hmx2 : (if na < nb then ((nb : Nat) : Int) else ((na : Nat) : Int)) = ((m : Nat) : Int) := by rw [hm]; split <;> omega
  have hmx : (if ((na : Nat) : Int) < ((nb : Nat) : Int) then ((nb : Nat) : Int) else ((na : Nat) : Int)) = ((m : Nat) : Int) := by rw [hm]; split <;> omega
  have hml : m ≤ 9223372036854775807 := by omega
  have ca0 := blk_cell hba 0
  have cb0 := blk_cell hbb 0
  simp only [List.getElem?_toArray, List.getElem?_cons_zero] at ca0 cb0
  have HA := Aside0.mk ha
  have HB := Aside0.mk hb
  have HBA := Aside0.mk hba
  have HBB := Aside0.mk hbb
  have HM := Aside0.mk hm
  have HY := Aside0.mk hY
  have HJD := Aside0.mk hJd
  clear ha hb hba hbb hm hY hJd
  refine callsIn_of_wp Try.func48 rfl trivial ?_ rfl
  simp only [Try.ntmps48, List.size_toArray, List.length_cons, List.length_nil, Nat.reduceAdd, Nat.reduceSub, Array.replicate_succ, Array.replicate_zero, List.push_toArray, List.append_toArray, List.nil_append, List.cons_append]
  gi_wp2
  gi_loopw [10] (fun i wr => ∃ k : Nat, k ≤ m ∧ i = .int .i64 k ∧ J (upto (pairAt hia hib) k) wr ∧ Aside0 (KeepB n0 Ba Bb W wr)) (fun i _ => m - (intOf i).toNat)
  case atStart => exact ⟨0, Nat.zero_le _, rfl, h0, ⟨KeepB.refl _ _ _ _⟩⟩
  case round =>
    obtain ⟨k, hk, rfl, hJs, HK⟩ := hrel
    by_cases hlt : k < m
    · have ba2 := HK.out.ba.trans HBA.out
      have bb2 := HK.out.bb.trans HBB.out
      have ca2 := blk_cell ba2 0
      have cb2 := blk_cell bb2 0
      simp only [List.getElem?_toArray, List.getElem?_cons_zero] at ca2 cb2
      have HA2 := Aside0.mk (HA.out.keep HK.out.below).1
      have HB2 := Aside0.mk (HB.out.keep HK.out.below).1
      have HJ := Aside0.mk hJs
      clear ba2 bb2 hJs
      obtain ⟨fn, tmps, assign, body, hy, hR⟩ := HY.out _ (pairAt hia hib k) wr.drew (HJD.out _ _ HJ.out) (by rw [upto_length]; exact hlt)
      dsimp only [pairAt] at hy
      gi_wp2
      have HA3 := Aside0.mk (show Rd wr.drew Aa na a from HA2.out)
      have HB3 := Aside0.mk (show Rd wr.drew Ab nb b from HB2.out)
      gi_region_with (first | ((refine ⟨trivial, ?_⟩); (gi_at_call 49); (with_reducible refine (callsIn_wide.2 (nat_at Aa na ca a _ _ HA3.out)).mono ?_); (rintro e w' ⟨rfl, rfl⟩)) | ((refine ⟨trivial, ?_⟩); (gi_at_call 49); (with_reducible refine (callsIn_wide.2 (nat_at Ab nb cb b _ _ HB3.out)).mono ?_); (rintro e w' ⟨rfl, rfl⟩)) | ((with_reducible refine hR.mono ?_); (rintro e W3 hout); (obtain ⟨bb, rfl, HZ⟩ := yout hout); (clear hout)))
      all_goals
        cases bb with
        | true =>
          obtain ⟨hJ3, hk3⟩ : J (upto (pairAt hia hib) k ++ [pairAt hia hib k]) W3 ∧ KeepB n0 Ba Bb wr.drew W3 := by
            rcases HZ.out with ⟨_, h⟩ | ⟨h, _⟩
            · exact h
            · cases h
          rw [← upto_succ] at hJ3
          have HJ3 := Aside0.mk hJ3
          have HK3 := Aside0.mk hk3
          clear hJ3 hk3 HZ
          gi_wp2
          go_roundw
          case rel => exact ⟨k + 1, by omega, by go_num, HJ3.out, ⟨HK.out.trans (KeepB.trans ⟨(Below.refl _ _).drew, rfl, rfl⟩ HK3.out)⟩⟩
          case measure => simp [intOf]; omega
        | false =>
          have hJx3 : Jx (upto (pairAt hia hib) k ++ [pairAt hia hib k]) W3 := by
            rcases HZ.out with ⟨h, _⟩ | ⟨_, h⟩
            · cases h
            · exact h
          have HJ3 := Aside0.mk hJx3
          clear hJx3 HZ
          gi_wp2
          refine bodyPost_ret (results_none rfl _ _ _) rfl ?_
          exact ⟨⟨_, rfl⟩, .inr ⟨_, ⟨k + 1, by omega, (upto_succ _ _).symm⟩, HJ3.out⟩⟩
    · obtain rfl : k = m := by omega
      gi_wp2
      go_end0
      exact ⟨⟨_, rfl⟩, .inl ⟨_, rfl, hJs⟩⟩

theorem drew_grownBy (W : World) : W.grownBy W.drew none := ⟨rfl, rfl, rfl, Nat.le_refl _, fun _ _ _ => rfl⟩
/-- The iterator's contract. -/
theorem pairs_stops (n : Nat) (hn : 1 ≤ n) (Ba Bb n0 na nb ca cb : Nat) (Aa Ab : Option Addr) (a b : List Int) (hia : InB Num.W a) (hib : InB Num.W b) (w : World)
    (hba : w.heap[Ba]? = some (.cells #[.slice Aa na ca] 22 (0, 0))) (hbb : w.heap[Bb]? = some (.cells #[.slice Ab nb cb] 22 (0, 0))) (hn0 : n0 ≤ w.heap.size)
    (ha : RdB n0 w Aa na a) (hb : RdB n0 w Ab nb b) :
    SeqStopsK Fence.wide n Try.prog 48 #[.pointer (some ⟨Ba, 0, none⟩), .pointer (some ⟨Bb, 0, none⟩)] (fun x : WW => #[.int .u64 x.1.1, .int .u64 x.1.2]) (KeepB n0 Ba Bb)
      (fun ys => ys = upto (pairAt hia hib) (max na nb)) (fun pre => ∃ k, k ≤ max na nb ∧ pre = upto (pairAt hia hib) k) (max na nb) w := fun l J Jx W hW hJ _ hY h0 =>
  pairs1_in n hn l Ba Bb n0 na nb ca cb Aa Ab a b hia hib J Jx hY (fun pre W' h => hJ pre W' _ none h (drew_grownBy W') (fun r e => by cases e)) W
    ((hW.block Ba (blk_lt hba)).trans hba) ((hW.block Bb (blk_lt hbb)).trans hbb) (ha.keep (hW.mono hn0)) (hb.keep (hW.mono hn0)) h0
theorem keepB_b {n0 Ba Bb : Nat} {w : World} (hn : n0 ≤ w.heap.size) (ha : Ba < w.heap.size) (hb : Bb < w.heap.size) (W : World) (l : Nat) (o o' : Obj) (hl : w.heap.size ≤ l) (h : W.heap[l]? = some o) (h1 : o.isCells = false) (h2 : o.isWalk = false) : KeepB n0 Ba Bb W (W.putObj l o') :=
  ⟨belowK_b hn W l o o' hl h h1 h2, World.putObj_heap_other (by omega), World.putObj_heap_other (by omega)⟩

theorem pairs_in (Aa Ab : Option Addr) (na nb ca cb : Nat) (w : World) :
    Calls Try.prog 44 #[.slice Aa na ca, .slice Ab nb cb] w fun e w' => e = .returned (.func (.func 48) #[] #[.pointer (some ⟨w.heap.size, 0, none⟩), .pointer (some ⟨w.heap.size + 1, 0, none⟩)]) ∧
      w' = (w.alloc (.cells #[.slice Aa na ca] 22)).alloc (.cells #[.slice Ab nb cb] 22) := by
  go_enter Try.func44, Try.ntmps44
  go_wp2
  go_ret
  exact ⟨rfl, rfl⟩

theorem Rd.toB {w : World} {A : Option Addr} {n : Nat} {l : List Int} (h : Rd w A n l) : RdB w.heap.size w A n l :=
  ⟨h, fun ad e hn => by
    obtain ⟨ad', e', hc⟩ := h.2.2 hn
    rw [e] at e'
    cases e'
    have := World.block_lt_of_cell? w _ (hc 0 hn)
    rwa [block_add] at this⟩

/-! ### nat.Cmp -/
def cmpv (m n : Nat) : Int := if m < n then -1 else if n < m then 1 else 0
def cmpF : List WW → Int := List.foldl (fun o p => if p.1.1 < p.1.2 then -1 else if p.1.2 < p.1.1 then 1 else o) 0
theorem cmpF_snoc (l : List WW) (p : WW) : cmpF (l ++ [p]) = if p.1.1 < p.1.2 then -1 else if p.1.2 < p.1.1 then 1 else cmpF l := by simp [cmpF]
theorem val_take_lt {a : List Int} (h : InB W a) (k : Nat) : val W (a.take k) < W ^ k := by
  have h1 := val_lt W_pos (inB_take h k)
  exact Nat.lt_of_lt_of_le h1 (Nat.pow_le_pow_right W_pos (List.length_take_le k a))
theorem cmpF_upto {a b : List Int} (hia : InB W a) (hib : InB W b) : ∀ k, cmpF (upto (pairAt hia hib) k) = cmpv (val W (a.take k)) (val W (b.take k))
  | 0 => by simp [upto, cmpF, cmpv, val]
  | k + 1 => by
    rw [upto_succ, cmpF_snoc, cmpF_upto hia hib k, val_take_succ, val_take_succ, List.getD_eq_getElem?_getD, List.getD_eq_getElem?_getD]
    have h1 := rd_wd hia k
    have h2 := rd_wd hib k
    have l1 := val_take_lt hia k
    have l2 := val_take_lt hib k
    have e1 : (pairAt hia hib k).1.1 = a[k]?.getD 0 := rfl
    have e2 : (pairAt hia hib k).1.2 = b[k]?.getD 0 := rfl
    rw [e1, e2]
    clear e1 e2
    generalize val W (a.take k) = u at *
    generalize val W (b.take k) = v at *
    generalize W ^ k = p at *
    generalize a[k]?.getD 0 = x at *
    generalize b[k]?.getD 0 = y at *
    obtain ⟨x, rfl⟩ := Int.eq_ofNat_of_zero_le h1.1
    obtain ⟨y, rfl⟩ := Int.eq_ofNat_of_zero_le h2.1
    simp only [Int.toNat_natCast]
    unfold cmpv
    by_cases c1 : x < y
    · have : p * x + p ≤ p * y := by rw [← Nat.mul_succ]; exact Nat.mul_le_mul_left _ c1
      rw [if_pos (by omega), if_pos (by omega)]
    · by_cases c2 : y < x
      · have : p * y + p ≤ p * x := by rw [← Nat.mul_succ]; exact Nat.mul_le_mul_left _ c2
        rw [if_neg (by omega), if_pos (by omega), if_neg (by omega), if_pos (by omega)]
      · obtain rfl : x = y := by omega
        rw [if_neg (by omega), if_neg (by omega)]
        by_cases d1 : u < v
        · rw [if_pos d1, if_pos (by omega)]
        · by_cases d2 : v < u
          · rw [if_neg d1, if_pos d2, if_neg (by omega), if_pos (by omega)]
          · rw [if_neg d1, if_neg d2, if_neg (by omega), if_neg (by omega)]
theorem take_max {a : List Int} {n m : Nat} (h : a.length = n) (hm : n ≤ m) : a.take m = a := List.take_of_length_le (by omega)

def nat_Cmp.f (l0 l1 : List Int) : Option Int := if inb l0 = true ∧ inb l1 = true then some (cmpv (val W l0) (val W l1)) else none


end Go.Proofs.Ytgoglfojjpibnaa.Hand
