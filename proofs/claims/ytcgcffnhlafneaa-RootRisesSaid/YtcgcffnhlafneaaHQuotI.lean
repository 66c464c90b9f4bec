/- Texts joined into one: each with its own sentence of what is proved, and under which conditions. -/
import Derived.Test.YtcgcffnhlafneaaHProdE
import Derived.Test.YtcgcffnhlafneaaHBits
import Derived.Deep.RegionHeld3
import Derived.Deep.DrawnRows
import Derived.WalkMore
import Derived.Laws.CopyOwn
import Derived.Lib.Overlaps
import Derived.Lib.AppendZerosOnto
import Derived.Deep.RegionLaw
import Derived.WalkSpells
import Derived.Deep.LoopGhost
/- quot.ByWord, begun: what has been made of a number's upper words, divided by a word. (The walk: XHQuotB, under way.) -/
namespace Go.Proofs.Ytcgcffnhlafneaa.Hand
open Go.RowKit Go.Proofs.YtcgcffnhlafneaaW.PrintWords Go.Proofs.YtcgcffnhlafneaaW.PrintMore Go.Proofs.Ytcgcffnhlafneaa.Num
set_option linter.unusedVariables false
set_option linter.unusedSimpArgs false
attribute [local go_sem] Oper.semAt_some max2_int min2_int max_two min_two

/-- i words of a are still to be divided by d; those above are divided: the figures stand in q, r is left. -/
structure ByInv (a : List Int) (d i : Nat) (q : List Int) (r : Nat) : Prop where
  len : q.length = a.length
  inb : InB W q
  lt : r < d
  low : ∀ j, j < i → q.getD j 0 = 0
  val : val W (q.drop i) * d + r = val W (a.drop i)
theorem ByInv.first (a : List Int) {d : Nat} (hd : 0 < d) : ByInv a d a.length (List.replicate a.length 0) 0 :=
  ⟨by simp, inB_replicate W_pos _, hd, fun j _ => by rw [List.getD_eq_getElem?_getD, List.getElem?_replicate]; split <;> rfl, by simp [Num.val]⟩
theorem drop_cons_getD (l : List Int) (i : Nat) (h : i < l.length) : l.drop i = l.getD i 0 :: l.drop (i + 1) := by
  rw [List.drop_eq_getElem_cons h, List.getD_eq_getElem?_getD, List.getElem?_eq_getElem h]; rfl
theorem ByInv.step {a q : List Int} {d i r x f s : Nat} (h : ByInv a d (i + 1) q r) (hi : i < a.length) (hx : a.getD i 0 = (x : Int)) (hf : f < 18446744073709551616) (hs : s < d) (he : f * d + s = r * 18446744073709551616 + x) :
    ByInv a d i (q.set i (f : Int)) s := by
  refine ⟨by simp [h.len], inB_set h.inb _ ⟨by omega, by rw [W_eq]; omega⟩, hs, fun j hj => ?_, ?_⟩
  · rw [List.getD_eq_getElem?_getD, List.getElem?_set_ne (by omega), ← List.getD_eq_getElem?_getD]
    exact h.low j (by omega)
  · have hv := h.val
    rw [drop_cons_getD (q.set i (f : Int)) i (by simp [h.len]; exact hi), drop_cons_getD a i hi, hx, List.drop_set_of_lt (by omega), List.getD_eq_getElem?_getD, List.getElem?_set_self (by rw [h.len]; exact hi)]
    simp only [Option.getD_some, Num.val, Int.toNat_natCast]
    rw [← hv, Nat.mul_add, Nat.add_mul, ← W_eq] at *
    generalize Num.val W (List.drop (i + 1) q) = V at *
    rw [← Nat.mul_assoc]
    have e : W * r = r * W := Nat.mul_comm _ _
    generalize W * V * d = y at *
    omega
theorem ByInv.done {a q : List Int} {d r : Nat} (h : ByInv a d 0 q r) : Num.val W q = Num.val W a / d ∧ r = Num.val W a % d := by
  have hv := h.val
  rw [List.drop_zero, List.drop_zero] at hv
  have hd : 0 < d := Nat.lt_of_le_of_lt (Nat.zero_le _) h.lt
  rw [← hv, Nat.mul_comm]
  exact ⟨by rw [Nat.mul_add_div hd, Nat.div_eq_of_lt h.lt, Nat.add_zero], by rw [Nat.mul_add_mod, Nat.mod_eq_of_lt h.lt]⟩
/-- How ByWord's own memory stands: the boxes of a (block B) and d, the row q, the variables q and r. -/
structure ByW (B : Nat) (A : Option Addr) (n c d : Nat) (q : List Int) (r : Nat) (W : World) : Prop where
  ba : Boxed W B 22 (.slice A n c)
  bd : Boxed W (B + 1) 39 (.int .u64 d)
  rw : Row64 W (B + 1 + 1) q
  bq : Boxed W (B + 1 + 1 + 1) 22 (.slice (some ⟨B + 1 + 1, 0, none⟩) n n)
  br : Boxed W (B + 1 + 1 + 1 + 1) 39 (.int .u64 r)
theorem ByW.later {B n c d r : Nat} {A : Option Addr} {q : List Int} {W W' : World} (h : ByW B A n c d q r W) (hb : Below W.heap.size W W') : ByW B A n c d q r W' :=
  ⟨blk_below h.ba hb, blk_below h.bd hb, blk_below h.rw hb, blk_below h.bq hb, blk_below h.br hb⟩
theorem ByW.step {B n c d r : Nat} {A : Option Addr} {q : List Int} {W : World} (h : ByW B A n c d q r W) (i f s : Nat) :
    ByW B A n c d (q.set i (f : Int)) s ((W.setCell ⟨B + 1 + 1, i, none⟩ (.int .u64 (f : Int))).setCell ⟨B + 1 + 1 + 1 + 1, 0, none⟩ (.int .u64 (s : Int))) := by
  have e : ∀ (W' : World) (b j : Nat) (o : Nat) (v : Value), j ≠ b → (W'.setCell ⟨b, o, none⟩ v).heap[j]? = W'.heap[j]? := fun W' b j o v hj => Below.heap_setCell _ _ _ _ (by simpa using hj)
  have br1 : Boxed (W.setCell ⟨B + 1 + 1, i, none⟩ (.int .u64 (f : Int))) (B + 1 + 1 + 1 + 1) 39 (.int .u64 r) := (e _ _ _ _ _ (by omega)).trans h.br
  refine ⟨?_, ?_, ?_, ?_, br1.set _⟩
  · exact ((e _ _ _ _ _ (by omega)).trans (e _ _ _ _ _ (by omega))).trans h.ba
  · exact ((e _ _ _ _ _ (by omega)).trans (e _ _ _ _ _ (by omega))).trans h.bd
  · exact (e _ _ _ _ _ (by omega)).trans (h.rw.set i _)
  · exact ((e _ _ _ _ _ (by omega)).trans (e _ _ _ _ _ (by omega))).trans h.bq
end Go.Proofs.Ytcgcffnhlafneaa.Hand

/- quot.ByWord's closure by hand. (Under way: this text does not build yet.) -/
namespace Go.Proofs.Ytcgcffnhlafneaa.Hand
open Go.RowKit Go.Proofs.YtcgcffnhlafneaaW.PrintWords Go.Proofs.YtcgcffnhlafneaaW.PrintMore Go.Proofs.Ytcgcffnhlafneaa.Num
set_option linter.unusedVariables false
set_option linter.unusedSimpArgs false
attribute [local go_sem] Oper.semAt_some max2_int min2_int max_two min_two

end Go.Proofs.Ytcgcffnhlafneaa.Hand

/- quot.top, guess, figure by hand: a figure of a quotient, and what is left. -/
namespace Go.Proofs.Ytcgcffnhlafneaa.Hand
open Go.RowKit Go.Proofs.YtcgcffnhlafneaaW.PrintWords Go.Proofs.YtcgcffnhlafneaaW.PrintMore Go.Proofs.Ytcgcffnhlafneaa.Num
set_option linter.unusedVariables false
set_option linter.unusedSimpArgs false
attribute [local go_sem] Oper.semAt_some max2_int min2_int max_two min_two

/-! ### plain -/
theorem val_at {l : List Int} (h : InB W l) (i : Nat) : l.getD i 0 = ((val W l / W ^ i % W : Nat) : Int) := by
  have e := val_take_succ W l i
  have hx := inB_getD W_pos h i
  have h1 := val_take_lt h i
  have h2 : val W l % W ^ (i + 1) = val W (l.take (i + 1)) := by
    rcases Nat.le_total (i + 1) l.length with h3 | h3
    · exact (val_take_mod W_pos h (i + 1) h3).symm
    · rw [List.take_of_length_le h3]
      exact Nat.mod_eq_of_lt (Nat.lt_of_lt_of_le (val_lt W_pos h) (Nat.pow_le_pow_right W_pos h3))
  have h3 : val W l / W ^ i % W = (l.getD i 0).toNat := by
    rw [← Nat.mod_mul_right_div_self, ← Nat.pow_succ, h2, e, Nat.add_mul_div_left _ _ (Nat.pow_pos W_pos), Nat.div_eq_of_lt h1, Nat.zero_add]
  rw [h3]
  omega
/-- What guess answers, of a number R and a divisor D of n + 1 words. -/
def guessV (R D n : Nat) : Nat := if D / W ^ n ≤ R / W ^ (n + 1) then 18446744073709551615 else (R / W ^ n) / (D / W ^ n)
theorem guess_ge {R D n : Nat} (hD : W ^ n ≤ D) (hR : R < W * D) : R / D ≤ guessV R D n ∧ guessV R D n < 18446744073709551616 := by
  have hp : 0 < W ^ n := Nat.pow_pos W_pos
  have hDp : 0 < D := Nat.lt_of_lt_of_le hp hD
  have h1 : R / D < W := Nat.div_lt_of_lt_mul (by rw [Nat.mul_comm]; exact hR)
  have hWe := W_eq
  unfold guessV
  split
  · omega
  · rename_i h
    have hd : 0 < D / W ^ n := Nat.div_pos hD hp
    constructor
    · rw [Nat.div_div_eq_div_mul]
      exact Nat.div_le_div_left (Nat.mul_div_le D (W ^ n)) (Nat.mul_pos hp hd)
    · rw [← hWe]
      refine Nat.div_lt_of_lt_mul ?_
      have h2 : R / W ^ (n + 1) < D / W ^ n := by omega
      rw [Nat.pow_succ, ← Nat.div_div_eq_div_mul] at h2
      have h3 := Nat.div_add_mod (R / W ^ n) W
      have h4 := Nat.mod_lt (R / W ^ n) W_pos
      have h5 := Nat.mul_le_mul_left W h2
      rw [Nat.mul_comm (D / W ^ n)]
      rw [Nat.mul_succ] at h5
      omega

/-! ### quot.top -/
set_option maxRecDepth 100000 in
theorem top1 (A : Option Addr) (n c B : Nat) (l : List Int) (i : Int) (w : World) (hr : Rd w A n l) (hB : w.cell? ⟨B, 0, none⟩ = some (.slice A n c)) :
    Calls Try.prog 70 #[.int .i64 i, .pointer (some ⟨B, 0, none⟩)] w fun e w' => e = .returned (.int .u64 (if 0 ≤ i then l.getD i.toNat 0 else 0)) ∧ Below w.heap.size w w' := by
  have hl : l.length = n := hr.1
  by_cases h0 : i < 0
  · rw [if_neg (by omega)]
    clear hr
    go_enter Try.func70, Try.ntmps70
    go_wp2
    go_ret
    exact ⟨rfl, Below.refl _ _⟩
  · rw [if_pos (by omega)]
    obtain ⟨k, rfl⟩ := Int.eq_ofNat_of_zero_le (show 0 ≤ i by omega)
    by_cases h1 : n ≤ k
    · have e : l.getD ((k : Nat) : Int).toNat 0 = 0 := by rw [Int.toNat_natCast, List.getD_eq_getElem?_getD, List.getElem?_eq_none (by omega)]; rfl
      rw [e]
      clear hr e
      go_enter Try.func70, Try.ntmps70
      go_wp2
      go_ret
      exact ⟨rfl, Below.refl _ _⟩
    · obtain ⟨ad, rfl, hc⟩ := hr.2.2 (by omega)
      have hck := hc k (by omega)
      rw [Int.toNat_natCast]
      have hlt : k < n := by omega
      have hlt' : (k : Int) < (n : Int) := by omega
      have hk0 : (0 : Int) ≤ (k : Int) := by omega
      clear hc hr h0 h1
      generalize l.getD k 0 = x at hck ⊢
      go_enter Try.func70, Try.ntmps70
      go_wp2
      go_ret
      exact ⟨rfl, Below.refl _ _⟩
set_option maxRecDepth 100000 in
theorem quot_top (A : Option Addr) (n c : Nat) (l : List Int) (i : Nat) (w : World) (hr : Rd w A n l) (hi : i ≤ 17592186044400) :
    Calls Try.prog 66 #[.slice A n c, .int .i64 ((i : Int) + 1)] w fun e w' => e = .returned (.tuple #[.int .u64 (l.getD (i + 1) 0), .int .u64 (l.getD i 0)]) ∧ Below w.heap.size w w' := by
  have t1 := fun W hr hc => top1 A n c w.heap.size l ((i : Int) + 1) W hr hc
  have t2 := fun W hr hc => top1 A n c w.heap.size l (i : Int) W hr hc
  rw [if_pos (by omega), show ((i : Int) + 1).toNat = i + 1 by omega] at t1
  rw [if_pos (by omega), Int.toNat_natCast] at t2
  have T1 := Aside0.mk t1
  have T2 := Aside0.mk t2
  have HR := Aside0.mk hr
  clear t1 t2 hr
  go_enter Try.func66, Try.ntmps66
  go_wp2_with (first
    | ((go_at_call 70); (with_reducible refine (T1.out _ (HR.out.later (below_alloc (Below.refl _ _) _)) (by exact (Boxed.new _ _ _).cell)).mono ?_); (rintro e w1 ⟨rfl, hb1⟩); (have HB1 := Aside0.mk hb1); (clear hb1))
    | ((go_at_call 70); (with_reducible refine (T2.out _ (HR.out.later (below_then (below_alloc (Below.refl _ _) _) HB1.out)) (cell_later (Boxed.new _ _ _).cell HB1.out)).mono ?_); (rintro e w2 ⟨rfl, hb2⟩); (have HB2 := Aside0.mk hb2); (clear hb2)))
  refine bodyPost_ret (results_tmp2 rfl _ _ _) rfl ?_
  exact ⟨rfl, below_then (below_then (below_alloc (Below.refl _ _) _) HB1.out) HB2.out⟩

/-! ### quot.guess -/
theorem top_word {d : List Int} {m : Nat} (hid : InB W d) (hl : d.length = m + 1) : d.getD m 0 = ((val W d / W ^ m : Nat) : Int) ∧ val W d / W ^ m < W := by
  have h := val_lt W_pos hid
  rw [hl, Nat.pow_succ] at h
  have h2 : val W d / W ^ m < W := Nat.div_lt_of_lt_mul h
  exact ⟨by rw [val_at hid, Nat.mod_eq_of_lt h2], h2⟩
set_option maxRecDepth 100000 in
theorem quot_guess (A B : Option Addr) (n c m cd : Nat) (r d : List Int) (w : World) (hr : Rd w A n r) (hd : Rd w B (m + 1) d) (hir : InB Num.W r) (hid : InB Num.W d) (hm : m ≤ 17592186044300) (htop : Num.W ^ m ≤ val Num.W d) (hlt : val Num.W r < Num.W * val Num.W d) :
    Calls Try.prog 55 #[.slice A n c, .slice B (m + 1) cd] w fun e w' => e = .returned (.int .u64 (guessV (val Num.W r) (val Num.W d) m : Nat)) ∧ Below w.heap.size w w' := by
  obtain ⟨hd1, hd2⟩ := top_word hid hd.1
  have hvd := val_lt Num.W_pos hid
  rw [hd.1] at hvd
  have hRW : val Num.W r / Num.W ^ (m + 1) < Num.W := by
    refine Nat.div_lt_of_lt_mul (Nat.lt_of_lt_of_le hlt ?_)
    rw [Nat.mul_comm]
    exact Nat.mul_le_mul_right _ (Nat.le_of_lt hvd)
  have e1 : r.getD (m + 1) 0 = ((val Num.W r / Num.W ^ (m + 1) : Nat) : Int) := by rw [val_at hir, Nat.mod_eq_of_lt hRW]
  have e2 : r.getD m 0 = ((val Num.W r / Num.W ^ m % Num.W : Nat) : Int) := val_at hir m
  have e3 : val Num.W r / Num.W ^ m = val Num.W r / Num.W ^ (m + 1) * Num.W + val Num.W r / Num.W ^ m % Num.W := by
    have := Nat.div_add_mod (val Num.W r / Num.W ^ m) Num.W
    rw [Nat.div_div_eq_div_mul, ← Nat.pow_succ, Nat.mul_comm] at this
    exact this.symm
  have hl0 : val Num.W r / Num.W ^ m % Num.W < Num.W := Nat.mod_lt _ Num.W_pos
  have hp : 0 < val Num.W d / Num.W ^ m := Nat.div_pos htop (Nat.pow_pos Num.W_pos)
  have hg := (guess_ge htop hlt).2
  have ht := fun W hr => quot_top A n c r m W hr (by omega)
  rw [e1, e2] at ht
  unfold guessV at *
  generalize val Num.W r / Num.W ^ (m + 1) = hi at *
  generalize val Num.W r / Num.W ^ m % Num.W = lo at *
  generalize val Num.W r / Num.W ^ m = qq at *
  rw [W_eq] at e3
  subst e3
  generalize val Num.W d / Num.W ^ m = t at *
  rw [W_eq] at hl0 hRW hd2
  have hdv := fun W => word_div (hi : Int) (lo : Int) (t : Int) (by unfold Wd; omega) (by unfold Wd; omega) (by unfold Wd; omega) W
  obtain ⟨ad, rfl, hc⟩ := hd.2.2 (by omega)
  have hck := hc m (by omega)
  rw [hd1] at hck
  have HT := Aside0.mk (ht w hr)
  have HCK := Aside0.mk hck
  have hm0 : (0 : Int) ≤ (m : Int) := by omega
  have hm1 : (m : Int) < (m : Int) + 1 := by omega
  by_cases hcs : t ≤ hi
  · rw [if_pos hcs]
    have ed : divW (hi : Int) (lo : Int) (t : Int) = (0, 0, 1) := by unfold divW; rw [if_neg (by omega), if_pos (by omega)]
    rw [ed] at hdv
    have HD := Aside0.mk hdv
    clear ht hdv hck hc hr hd hir hid htop hlt hd1 hd2 hvd hRW e1 e2 hl0 hp hg ed
    go_enter Try.func55, Try.ntmps55
    go_wp2_with (first
      | ((go_at_call 66); (with_reducible refine HT.out.mono ?_); (rintro e w1 ⟨rfl, hb⟩); (have hck1 := cell_later HCK.out hb); (have HB := Aside0.mk hb); (clear hb))
      | ((go_at_call 67); (with_reducible refine (HD.out _).mono ?_); (rintro e w2 ⟨rfl, hb2⟩); (have HB2 := Aside0.mk hb2); (clear hb2)))
    refine bodyPost_ret (results_tmp rfl _ _ _) rfl ?_
    exact ⟨rfl, below_then HB.out HB2.out⟩
  · rw [if_neg hcs]
    have ed : divW (hi : Int) (lo : Int) (t : Int) = ((((hi * 18446744073709551616 + lo) / t : Nat) : Int), (((hi * 18446744073709551616 + lo) % t : Nat) : Int), 0) := by unfold divW; rw [if_neg (by omega), if_neg (by omega), Int.toNat_natCast, Int.toNat_natCast, Int.toNat_natCast]
    rw [ed] at hdv
    generalize (hi * 18446744073709551616 + lo) / t = qd at *
    generalize (hi * 18446744073709551616 + lo) % t = rd at *
    have HD := Aside0.mk hdv
    clear ht hdv hck hc hr hd hir hid htop hlt hd1 hd2 hvd hRW e1 e2 hl0 hp hg ed
    go_enter Try.func55, Try.ntmps55
    go_wp2_with (first
      | ((go_at_call 66); (with_reducible refine HT.out.mono ?_); (rintro e w1 ⟨rfl, hb⟩); (have hck1 := cell_later HCK.out hb); (have HB := Aside0.mk hb); (clear hb))
      | ((go_at_call 67); (with_reducible refine (HD.out _).mono ?_); (rintro e w2 ⟨rfl, hb2⟩); (have HB2 := Aside0.mk hb2); (clear hb2)))
    refine bodyPost_ret (results_tmp rfl _ _ _) rfl ?_
    exact ⟨rfl, below_then HB.out HB2.out⟩

/-! ### quot.figure -/
/-- What a figure leaves. -/
def FigPost (q : Nat) (r : List Int) (w : World) (e : Ending) (w' : World) : Prop := ∃ v : Value, e = .returned (.tuple #[.int .u64 (q : Int), v]) ∧ Vw w' w.heap.size (fun k => w.heap.size ≤ k) v r ∧ Below w.heap.size w w'
set_option maxRecDepth 100000 in
set_option maxHeartbeats 2000000 in
theorem quot_figure (A B : Option Addr) (n c m cd : Nat) (r d : List Int) (w : World) (hr : Rd w A n r) (hd : Rd w B (m + 1) d) (hir : InB Num.W r) (hid : InB Num.W d) (hm : m ≤ 17592186044300) (hn : n ≤ 17592186044400) (htop : Num.W ^ m ≤ val Num.W d) (hlt : val Num.W r < Num.W * val Num.W d) :
    Calls Try.prog 44 #[.slice A n c, .slice B (m + 1) cd] w (FigPost (val Num.W r / val Num.W d) (dig Num.W (val Num.W r % val Num.W d)) w) := by
  obtain ⟨hg1, hg2⟩ := guess_ge htop hlt
  have hgs := quot_guess A B n c m cd r d w hr hd hir hid hm htop hlt
  have hDp : 0 < val Num.W d := Nat.lt_of_lt_of_le (Nat.pow_pos Num.W_pos) htop
  have hDlt := val_lt Num.W_pos hid
  rw [hd.1] at hDlt
  obtain ⟨G, hG⟩ : ∃ G, G = guessV (val Num.W r) (val Num.W d) m := ⟨_, rfl⟩
  rw [← hG] at hg1 hg2 hgs
  have hdl : ∀ k, k < 18446744073709551616 → (dig Num.W (val Num.W d * k)).length ≤ m + 2 := fun k hk => dig_len_of_lt (by
    rw [Nat.pow_succ]
    exact Nat.mul_lt_mul_of_lt_of_lt hDlt hk)
  have hsc := fun W hW => nat_scale B (m + 1) cd d (G : Int) W hW hid (by unfold Wd; omega) (by omega)
  rw [Int.toNat_natCast] at hsc
  have hsb : ∀ (W : World) (P : Option Addr) (cp k : Nat), k < 18446744073709551616 → Rd W A n r → Rd W P (dig Num.W (val Num.W d * k)).length (dig Num.W (val Num.W d * k)) →
      Calls Try.prog 34 #[.slice A n c, .slice P (dig Num.W (val Num.W d * k)).length cp] W (SubPost (val Num.W r) (val Num.W d * k) W) := fun W P cp k hk h1 h2 => by
    have h := nat_sub A P n _ c cp r _ W h1 h2 hir (dig_inB Num.W_gt _) (by omega) (by have := hdl k hk; omega)
    rw [val_dig Num.W_gt] at h
    exact h
  have hsd : ∀ (W : World) (P : Option Addr) (cp k : Nat), k < 18446744073709551616 → Rd W B (m + 1) d → Rd W P (dig Num.W (val Num.W d * k)).length (dig Num.W (val Num.W d * k)) →
      Calls Try.prog 34 #[.slice P (dig Num.W (val Num.W d * k)).length cp, .slice B (m + 1) cd] W (SubPost (val Num.W d * k) (val Num.W d) W) := fun W P cp k hk h1 h2 => by
    have h := nat_sub P B _ (m + 1) cp cd _ d W h2 h1 (dig_inB Num.W_gt _) hid (by have := hdl k hk; omega) (by omega)
    rw [val_dig Num.W_gt] at h
    exact h
  have HR := Aside0.mk hr
  have HD := Aside0.mk hd
  have HGS := Aside0.mk hgs
  have HSC := Aside0.mk hsc
  have HSB := Aside0.mk hsb
  have HSD := Aside0.mk hsd
  generalize val Num.W r = R at *
  generalize val Num.W d = D at *
  have HDP := Aside0.mk hDp
  have HG1 := Aside0.mk hg1
  clear hr hd hgs hsc hsb hsd hir hid htop hlt hDlt hG hdl hg1 hDp
  go_enter Try.func44, Try.ntmps44
  go_wp2
  refine wp_scope_straight ?_
  go_wp2_with (first
    | ((go_at_call 55); (with_reducible refine HGS.out.mono ?_); (rintro e w1 ⟨rfl, hb⟩); (have HB1 := Aside0.mk hb); (clear hb))
    | ((go_at_call 56); (with_reducible refine (HSC.out _ (HD.out.later HB1.out)).mono ?_); (rintro e w2 ⟨v, rfl, hv, hb2⟩); (obtain ⟨P, cp, rfl, hcp, hrp⟩ := hv.reads); (have HP := Aside0.mk hrp); (have HB2 := Aside0.mk hb2); (clear hv hb2 hrp hcp)))
  refine wp_label ?_
  go_wp2
  go_loopw [6, 7] (fun qv pv wr => ∃ (k : Nat) (P : Option Addr) (cp : Nat), qv = .int .u64 (k : Int) ∧ pv = .slice P (dig Num.W (D * k)).length cp ∧ k < 18446744073709551616 ∧ Aside0 (R / D ≤ k) ∧ Aside0 (Rd wr P (dig Num.W (D * k)).length (dig Num.W (D * k))) ∧ Aside0 (Below w.heap.size w wr)) (fun qv _ _ => (intOf qv).toNat)
  case atStart => exact ⟨G, P, cp, rfl, rfl, hg2, HG1, HP, ⟨below_then HB1.out HB2.out⟩⟩
  case round =>
    obtain ⟨k, P, cp, rfl, rfl, hk, HGE, HP, HB⟩ := hrel
    by_cases hlt : R < D * k
    · have hs := HSB.out wr P cp k hk (HR.out.later HB.out) HP.out
      have hs2 := fun W (hW : Below wr.heap.size wr W) => HSD.out W P cp k hk (HD.out.later (below_then HB.out hW)) (HP.out.later hW)
      unfold SubPost at hs hs2
      have hk0 : 0 < k := by
        rcases Nat.eq_zero_or_pos k with h | h
        · subst h; omega
        · exact h
      have hkz : ((k : Int) == 0) = false := by rw [beq_eq_false_iff_ne]; omega
      have hDk : D ≤ D * k := Nat.le_mul_of_pos_right D hk0
      have hnl : ¬ D * k < D := by omega
      have hKE : Aside0 (D * k - D = D * (k - 1)) := ⟨by rw [Nat.mul_sub, Nat.mul_one]⟩
      have hGE2 : Aside0 (R / D ≤ k - 1) := ⟨by
        have h1 : R / D < k := Nat.div_lt_of_lt_mul hlt
        omega⟩
      rw [if_pos hlt, if_pos hlt] at hs
      simp only [if_neg hnl] at hs2
      have HS := Aside0.mk hs
      have HS2 := Aside0.mk hs2
      have hk1 : (1 : Int) ≤ (k : Int) := by omega
      have hkb : (k : Int) < 18446744073709551616 := by omega
      clear hs hs2 hlt hDk hnl
      go_wp2_with (first
        | ((go_at_call 34); (with_reducible refine HS.out.mono ?_); (rintro e w3 ⟨⟨v, rfl, hv⟩, hb3⟩); (have HB3 := Aside0.mk hb3); (clear hv hb3))
        | ((go_at_call 34); (with_reducible refine (HS2.out _ HB3.out).mono ?_); (rintro e w4 ⟨⟨v2, rfl, hv⟩, hb4⟩); (obtain ⟨P2, cp2, rfl, hcp, hrp⟩ := hv.reads); (have HP2 := Aside0.mk hrp); (have HB4 := Aside0.mk hb4); (clear hv hb4 hrp hcp)))
      rw [hKE.out] at HP2
      rw [hKE.out]
      exact ⟨⟨k - 1, P2, cp2, by rw [show ((k - 1 : Nat) : Int) = (k : Int) - 1 by omega], rfl, by omega, hGE2, HP2, ⟨below_then HB.out (below_then HB3.out HB4.out)⟩⟩, by simp [intOf]; omega⟩
    · have hs := HSB.out wr P cp k hk (HR.out.later HB.out) HP.out
      unfold SubPost at hs
      have hke : k = R / D := by
        have h1 : k ≤ R / D := (Nat.le_div_iff_mul_le HDP.out).2 (by rw [Nat.mul_comm]; omega)
        have := HGE.out
        omega
      have hre : Aside0 (R - D * k = R % D) := ⟨by rw [hke]; have := Nat.div_add_mod R D; omega⟩
      rw [if_neg hlt, if_neg hlt, hre.out] at hs
      have HS := Aside0.mk hs
      have HKE := Aside0.mk hke
      clear hs hke hlt
      go_wp2_with ((go_at_call 34); (with_reducible refine HS.out.mono ?_); (rintro e w3 ⟨⟨v, rfl, hv⟩, hb3⟩); (have HV := Aside0.mk hv); (have HB3 := Aside0.mk hb3); (clear hv hb3))
      rw [Exit.noGoto_ret]
      refine bodyPost_ret (results_tmp2 rfl _ _ _) rfl ?_
      rw [← HKE.out]
      exact ⟨v, rfl, vw_older HV.out HB.out.size, below_then HB.out HB3.out⟩
end Go.Proofs.Ytcgcffnhlafneaa.Hand

/- slices.Clone, slices.Insert (one word, at the head) by hand, at words: Go's own texts. -/
namespace Go.Proofs.Ytcgcffnhlafneaa.Hand
open Go.RowKit Go.Proofs.YtcgcffnhlafneaaW.PrintWords Go.Proofs.YtcgcffnhlafneaaW.PrintMore Go.Proofs.Ytcgcffnhlafneaa.Num
set_option linter.unusedVariables false
set_option linter.unusedSimpArgs false
attribute [local go_sem] Oper.semAt_some max2_int min2_int max_two min_two

theorem nums_one {l : List Int} : ∀ u ∈ nums .u64 l, u.oneCell' = true := fun u hu => by obtain ⟨x, _, rfl⟩ := List.mem_map.1 hu; rfl
theorem Rd.news {w : World} {ad : Addr} {n : Nat} {l : List Int} (h : Rd w (some ad) n l) : ∀ j u, (nums .u64 l)[j]? = some u → w.cell? (ad.add j) = some u := fun j u hj => by
  obtain ⟨x, hx, rfl⟩ : ∃ x, l[j]? = some x ∧ Value.int .u64 x = u := by simpa [nums] using hj
  have hjl := (List.getElem?_eq_some_iff.1 hx).1
  obtain ⟨ad', e, hc⟩ := h.2.2 (by have := h.1; omega)
  cases e
  rw [hc j (by have := h.1; omega), List.getD_eq_getElem?_getD, hx]
  rfl
theorem Vw.of_own {w : World} {base base' : Nat} {v : Value} {n : Nat} {l : List Int} (h : w.ownsRow base 39 1 v n (nums .u64 l)) : Vw w base' (fun k => base ≤ k) v l := by
  have hl : l.length = n := by have := h.1; simpa [nums] using this
  rcases h.2 with ⟨rfl, h0⟩ | ⟨g, cap, cur, rfl, hg, _, hc, _⟩
  · obtain rfl : l = [] := List.eq_nil_of_length_eq_zero (by omega)
    exact Vw.nil _ _ _
  · exact Vw.of_Rd (own_reads' h) hc (fun ad e _ => by cases e; exact hg)
theorem q_nil : ∀ (w : World) (a : Option Addr) (n c n' c' : Nat), (binOp .eql 22 (.slice a n c) (.slice none n' c')).run Try.prog w = .ok (.bool a.isNone) w := fun w a n c n' c' => Lib.run_eql_slice_nil w _ _ a n c n' c' Try.underlying22
set_option maxRecDepth 100000 in
set_option maxHeartbeats 1000000 in
theorem clone64 (A : Option Addr) (n c : Nat) (l : List Int) (w : World) (hr : Rd w A n l) (hn : n ≤ 17592186044400) :
    Calls Try.prog 43 #[.slice A n c] w fun e w' => ∃ v, e = .returned v ∧ w'.ownsRow w.heap.size 39 1 v n (nums .u64 l) ∧ Below w.heap.size w w' := by
  have hl : l.length = n := hr.1
  have qn := q_nil
  rcases A with _ | ad
  · have h0 : n = 0 := by
      rcases Nat.eq_zero_or_pos n with h | h
      · exact h
      · obtain ⟨ad, e, _⟩ := hr.2.2 h; cases e
    subst h0
    obtain rfl : l = [] := List.eq_nil_of_length_eq_zero hl
    clear hr hl
    go_enter Try.func43, Try.ntmps43
    go_wp2
    refine bodyPost_ret (results_tmp rfl _ _ _) rfl ?_
    exact ⟨_, rfl, World.ownsRow_nil _ _ _ _, Below.refl _ _⟩
  · obtain ⟨i0, hi, hi2⟩ := Option.map_eq_some_iff.1 info64
    simp only [Prod.mk.injEq] at hi2
    obtain ⟨hz0, hz1, hz2⟩ := hi2
    have HR := Aside0.mk hr
    have HL := Aside0.mk hl
    clear hr hl
    go_enter Try.func43, Try.ntmps43
    go_wp2_with (at_builtin; refine wpList_append_own _ rfl _ _ 22 rfl w.heap.size 39 i0 (.int .u64 0) 1 8 Try.underlying22 hi hz0 hz1 hz2 rfl (by decide) _ _ _ rfl (World.ownsRow_made w #[] 0 (Nat.le_refl _) (Nat.zero_le _) rfl) ad n c (nums .u64 l) rfl (by simp [nums, HL.out]) (fun j u hj => Lib.cell?_alloc_some _ (HR.out.news j u hj)) nums_one (by unfold maxLen; omega) (by omega) (by simp) ?_; intro v' w1 hown hgrow hnil; have HO := Aside0.mk hown; have HG := Aside0.mk hgrow; clear hown hgrow hnil)
    refine bodyPost_ret (results_tmp rfl _ _ _) rfl ?_
    refine ⟨v', rfl, by simpa using HO.out, ?_⟩
    exact ((Below.refl _ w).alloc (Nat.le_refl _) _).grown HG.out (by simp) (fun k hk => by cases hk; exact Nat.le_refl _)
/-- What Insert leaves. -/
def InsPost (base : Nat) (l : List Int) (w : World) (e : Ending) (w' : World) : Prop := ∃ v : Value, e = .returned v ∧ Vw w' base (fun k => base ≤ k) v l ∧ Below base w w'
theorem run_overlaps64 (w : World) (g o vb la ca lb cb : Nat) (x : Value) (T : TypeId) (cur : List Value) (hne : vb ≠ g) (hv : w.heap[vb]? = some (.cells #[x] T (0, 0))) (hg : w.heap[g]? = some (.cells cur.toArray 39 (0, 0))) (hk : cur.length ≠ 0) :
    (callFunc 53 #[.slice (some ⟨vb, 0, none⟩) la ca, .slice (some ⟨g, o, none⟩) lb cb]).run Try.prog w = .ok (.value (.bool false)) w := by
  have hz : ∀ w, (Go.sizeOf 39).run Try.prog w = .ok 1 w := fun w => by kernel_rfl
  rw [run_callFunc_extern Try.func53 (by kernel_rfl) (by kernel_rfl) (by kernel_rfl) (e := Extern.SlicesOverlaps.overlaps #[22, 22] #[4]) (by kernel_rfl),
    Lib.run_overlaps_apart w 22 4 39 Try.underlying22 1 hz ⟨vb, 0, none⟩ ⟨g, o, none⟩ la ca lb cb hne T 39 1 cur.length (by simp [World.shape?, hv]) (by simp [World.shape?, hg]) hk (blk_frozen hv 0) (blk_frozen hv 1)]
  rfl
set_option maxRecDepth 100000 in
set_option maxHeartbeats 1000000 in
theorem insert64_end (base : Nat) (v : Value) (x : Int) (vb : Nat) (T : TypeId) (w : World) (how : w.ownsRow base 39 1 v 0 (nums .u64 [])) (hb : base ≤ w.heap.size) (hv : w.heap[vb]? = some (.cells #[.int .u64 x] T (0, 0))) :
    Calls Try.prog 42 #[v, .int .i64 0, .slice (some ⟨vb, 0, none⟩) 1 1] w (InsPost base [x] w) := by
  obtain ⟨i0, hi, hi2⟩ := Option.map_eq_some_iff.1 info64
  simp only [Prod.mk.injEq] at hi2
  obtain ⟨hz0, hz1, hz2⟩ := hi2
  have hc0 : ∀ j u, [Value.int .u64 x][j]? = some u → w.cell? ((⟨vb, 0, none⟩ : Addr).add j) = some u := fun j u hj => by
    rw [Addr.add_lit, blk_cell hv]
    simpa using hj
  have HW := Aside0.mk how
  have HC := Aside0.mk hc0
  obtain ⟨A, c, rfl⟩ : ∃ A c, v = .slice A 0 c := by
    rcases how.2 with ⟨rfl, _⟩ | ⟨g, cap, cur, rfl, _⟩
    · exact ⟨none, 0, rfl⟩
    · exact ⟨_, cap, rfl⟩
  clear how hc0 hv
  go_enter Try.func42, Try.ntmps42
  go_wp2_with (at_builtin; refine wpList_append_own _ rfl _ _ 22 rfl base 39 i0 (.int .u64 0) 1 8 Try.underlying22 hi hz0 hz1 hz2 rfl (by decide) _ _ _ rfl HW.out ⟨vb, 0, none⟩ 1 1 [.int .u64 x] rfl rfl HC.out (by simp [Value.oneCell']) (by unfold maxLen; omega) (by omega) hb ?_; intro v' w1 hown hgrow hnil; have HO := Aside0.mk hown; have HG := Aside0.mk hgrow; clear hown hgrow hnil)
  all_goals
    refine bodyPost_ret (results_tmp rfl _ _ _) rfl ?_
    refine ⟨v', rfl, Vw.of_own (n := 1) (by simpa [nums] using HO.out), ?_⟩
    exact (Below.refl _ w).grown HG.out hb (fun k hk => (HW.out.lt k hk).1)

/-- A copy whose run is known, as one step of a region that draws its order. -/
theorem step_copy_known {P : Program} {ops : Array Oper} {o : Oper} {a : Act} {w : World} {K : Act → World → Prop} {Q : Exit → Act → World → Prop} {E : Prop} (hgd : o.guard = none) (d s : Operand) (dT sT : TypeId)
    (ho : o.op = .call { callee := .builtin .copy, args := #[d, s], argTypes := #[dT, sT] }) (v u : Value) (hd : a.eval d = v) (hs : a.eval s = u) {r : Value} {w' : World} (hr : (Builtin.copy_ #[dT, sT] o.type #[v, u]).run P w = .ok r w') (hK : K (a.put o.dst r) w') :
    if Region.wanted o (yielded ops a.tmps) = true then Oper.wp P o a w K Q else E := by
  rw [if_pos (show Region.wanted o (yielded ops a.tmps) = true by simp [Region.wanted, hgd])]
  unfold Oper.wp
  simp [execOp, ho, resolve, invoke, builtin, hd, hs, hr, Result.andThen]
  exact hK
/-- copy into a row of words of which the cells are known. -/
theorem run_copy_into (W : World) (g off dLen dCap : Nat) (cur : List Value) (hg : W.heap[g]? = some (.cells cur.toArray 39 (0, 0))) (ad : Addr) (sLen sCap : Nat) (cs : List Value) (hn : cs.length = Nat.min sLen dLen)
    (hsrc : ∀ j v, cs[j]? = some v → W.cell? (ad.add j) = some v) (hfit : off + cs.length ≤ cur.length) (h1 : ∀ v ∈ cs, v.oneCell' = true) :
    ∃ w2, (∀ ty, (Builtin.copy_ #[22, 22] ty #[.slice (some ⟨g, off, none⟩) dLen dCap, .slice (some ad) sLen sCap]).run Try.prog W = .ok (goInt cs.length) w2) ∧
      w2.heap[g]? = some (.cells (cur.take off ++ cs ++ cur.drop (off + cs.length)).toArray 39 (0, 0)) ∧ (∀ (n : Nat) (w0 : World), n ≤ g → Below n w0 W → Below n w0 w2) ∧ (∀ j, j ≠ g → w2.heap[j]? = W.heap[j]?) := by
  refine ⟨_, fun ty => run_copy_row (P := Try.prog) W 22 22 ty 39 g off dLen dCap ad sLen sCap cur.toArray 39 cs Try.underlying22 size64 hg hn hsrc (by simpa using hfit) h1, ?_, fun n w0 hB hb => below_setRow hb hB _, fun j hj => setRow_other W g j _ hj⟩
  simpa using setRow_heap W g _ _ _ _ hg
theorem cells_news {W : World} {g n : Nat} {cur : List Value} {l : List Int} (hg : W.heap[g]? = some (.cells cur.toArray 39 (0, 0))) (hc : cur.take n = nums .u64 l) : ∀ j u, (nums .u64 l)[j]? = some u → W.cell? ((⟨g, 0, none⟩ : Addr).add j) = some u := fun j u hj => by
  rw [← hc, List.getElem?_take] at hj
  split at hj
  · rw [Addr.add_lit, blk_cell hg]
    simpa using hj
  · cases hj
/-- A slice whose block is known reads as its first cells. -/
theorem rd_of_cells {W : World} {g n : Nat} {cur : List Value} {l : List Int} (hg : W.heap[g]? = some (.cells cur.toArray 39 (0, 0))) (hl : l.length = n) (hn : n ≤ 35184372088832) (hc : cur.take n = nums .u64 l) : Rd W (some ⟨g, 0, none⟩) n l :=
  ⟨hl, by omega, fun _ => ⟨_, rfl, fun j hj => cells_news hg hc j _ (by
    rw [List.getD_eq_getElem?_getD, List.getElem?_eq_getElem (show j < l.length by omega)]
    simp [nums, show j < l.length by omega])⟩⟩
theorem ins_row {cur D : List Value} {l : List Int} {x : Int} {n : Nat} (h1 : 1 ≤ cur.length) (hl : l.length = n) : ((cur.take 1 ++ nums .u64 l ++ D).take 0 ++ [Value.int .u64 x] ++ (cur.take 1 ++ nums .u64 l ++ D).drop (0 + [Value.int .u64 x].length)).take (n + 1) = nums .u64 (x :: l) := by
  cases cur with
  | nil => simp at h1
  | cons c cur => simp [nums, ← hl]
set_option maxRecDepth 100000 in
set_option maxHeartbeats 2000000 in
theorem insert64_shift (base g n cap : Nat) (l : List Int) (x : Int) (vb : Nat) (T : TypeId) (cur : List Value) (w : World) (hg : w.heap[g]? = some (.cells cur.toArray 39 (0, 0))) (hcl : cur.length = cap) (hct : cur.take n = nums .u64 l)
    (hn : 0 < n) (hl : l.length = n) (hroom : n + 1 ≤ cap) (hlim : n ≤ 17592186044400) (hcm : cap ≤ 9223372036854775807) (hbg : base ≤ g) (hne : vb ≠ g) (hv : w.heap[vb]? = some (.cells #[.int .u64 x] T (0, 0))) :
    Calls Try.prog 42 #[.slice (some ⟨g, 0, none⟩) n cap, .int .i64 0, .slice (some ⟨vb, 0, none⟩) 1 1] w (InsPost base (x :: l) w) := by
  have hov := fun lb cb => run_overlaps64 w g 1 vb 1 1 lb cb (.int .u64 x) T cur hne hv hg (by omega)
  obtain ⟨w1, hc1, hg1, hb1, ho1⟩ := run_copy_into w.drew g 1 n (cap - 1) cur hg ⟨g, 0, none⟩ (n + 1) cap (nums .u64 l) (by rw [show (nums .u64 l).length = n by simp [nums, hl]]; exact (Nat.min_eq_right (Nat.le_succ n)).symm) (fun j u hj => cells_news hg hct j u hj) (by simp [nums]; omega) nums_one
  obtain ⟨w2, hc2, hg2, hb2, _⟩ := run_copy_into w1 g 0 (n + 1) cap _ hg1 ⟨vb, 0, none⟩ 1 1 [.int .u64 x] (by show 1 = min 1 (n + 1); omega) (fun j u hj => by
    have hv1 : w1.heap[vb]? = some (.cells #[.int .u64 x] T (0, 0)) := (ho1 vb hne).trans hv
    rw [Addr.add_lit, blk_cell hv1]
    simpa using hj) (by simp [nums]; omega) (by simp [Value.oneCell'])
  have hz1 : ¬ ((0 : Int) = (n : Int)) := by omega
  have hz2 : ((0 : Int) == (n : Int)) = false := by rw [beq_eq_false_iff_ne]; omega
  have hr1 : ¬ ((cap : Int) < (n : Int) + 1) := by omega
  have HB := Aside0.mk (hb2 base w hbg (hb1 base w hbg (Below.refl _ w).drew))
  have HR := Aside0.mk (rd_of_cells (l := x :: l) (n := n + 1) hg2 (by simp [hl]) (by omega) (ins_row (cur := cur) (by omega) hl))
  have hcp1 : ∀ ty, (Builtin.copy_ #[22, 22] ty #[.slice (some ⟨g, 1, none⟩) n (cap - 1), .slice (some ⟨g, 0, none⟩) (n + 1) cap]).run Try.prog w.drew = .ok (goInt n) w1 := fun ty => by
    have := hc1 ty
    rwa [show (nums .u64 l).length = n by simp [nums, hl]] at this
  have HC1 := Aside0.mk hcp1
  have hn1 : (n : Int) + 1 ≤ (cap : Int) := by omega
  have hcap0 : ¬ (cap = 1) := by omega
  have hw1 : IntKind.i64.wrap 1 = 1 := by rw [IntKind.wrap_i64]; rfl
  have hn2 : (1 : Int) ≤ (n : Int) + 1 := by omega
  have hn3 : (0 : Int) ≤ (n : Int) + 1 := by omega
  have hc2' : ∀ ty, (Builtin.copy_ #[22, 22] ty #[.slice (some ⟨g, 0, none⟩) (n + 1) cap, .slice (some ⟨vb, 0, none⟩) 1 1]).run Try.prog w1 = .ok (goInt 1) w2 := fun ty => hc2 ty
  clear hg hcl hct hl hg1 hb1 ho1 hg2 hb2 hv hc1 hcp1 hc2
  go_enter Try.func42, Try.ntmps42
  go_wp2
  go_region_law (refine step_copy_known rfl _ _ 22 22 rfl _ _ (by simp [Act.eval, Act.put]) (by simp [Act.eval, Act.put]) (HC1.out _) ?_)
  go_wp2
  refine bodyPost_ret (results_tmp rfl _ _ _) rfl ?_
  exact ⟨_, rfl, Vw.of_Rd HR.out hroom (fun ad e _ => by cases e; exact hbg), HB.out⟩
theorem ins_row2 {cur : List Value} {l : List Int} {x : Int} {n : Nat} (hl : l.length = n) : ((cur.take 0 ++ [Value.int .u64 x] ++ cur.drop (0 + [Value.int .u64 x].length)).take 1 ++ nums .u64 l ++ (cur.take 0 ++ [Value.int .u64 x] ++ cur.drop (0 + [Value.int .u64 x].length)).drop (1 + (nums .u64 l).length)).take (n + 1) = nums .u64 (x :: l) := by
  simp [nums, ← hl]
set_option maxRecDepth 100000 in
set_option maxHeartbeats 2000000 in
theorem insert64_grow (base g n cap : Nat) (l : List Int) (x : Int) (vb : Nat) (T : TypeId) (cur : List Value) (w : World) (hg : w.heap[g]? = some (.cells cur.toArray 39 (0, 0))) (hct : cur.take n = nums .u64 l)
    (hn : 0 < n) (hl : l.length = n) (hcap : n ≤ cap) (hroom : cap < n + 1) (hlim : n ≤ 17592186044400) (hbw : base ≤ w.heap.size) (hv : w.heap[vb]? = some (.cells #[.int .u64 x] T (0, 0))) :
    Calls Try.prog 42 #[.slice (some ⟨g, 0, none⟩) n cap, .int .i64 0, .slice (some ⟨vb, 0, none⟩) 1 1] w (InsPost base (x :: l) w) := by
  obtain ⟨i0, hi, hi2⟩ := Option.map_eq_some_iff.1 info64
  simp only [Prod.mk.injEq] at hi2
  obtain ⟨hz0, hz1, hz2⟩ := hi2
  obtain rfl : cap = n := by omega
  have hap := fun ty => Lib.run_append_grow_zeros (P := Try.prog) w 22 3 ty 39 i0 (.int .u64 0) .i64 .i64 Try.underlying22 Try.underlying3 hi hz0 (some ⟨g, 0, none⟩) 0 cap [] (run_firstCells_some w.drew i0.size 0 ⟨g, 0, none⟩ 0 cap [] (by simp) (by intro j v hj; simp at hj)) (cap + 1) (by omega) (by omega) (by omega) (by omega) (by rw [hz2]; omega) (by rw [hz2]; exact growslice_fits (by omega) (by omega))
  rw [Nat.zero_add] at hap
  obtain ⟨G, hG⟩ : ∃ G, G = grownCap w (cap + 1) cap 39 := ⟨_, rfl⟩
  rw [← hG] at hap
  have hGn : cap + 1 ≤ G := by rw [hG]; exact grownCap_ge w _ _ _
  have hG63 : G ≤ 9223372036854775807 := by
    have := grownCap_le_maxLen w (cap + 1) cap 39 (by unfold maxLen; omega)
    rw [← hG] at this
    unfold maxLen at this
    omega
  obtain ⟨ROW, hROW⟩ : ∃ ROW : Array Value, ROW = ([] : List Value).toArray ++ Builtin.zeroCells (Value.int .u64 0).cells (cap + 1) ++ Builtin.zeroCells (Value.int .u64 0).cells (G - (cap + 1)) := ⟨_, rfl⟩
  rw [← hROW] at hap
  have hRl : ROW.toList.length = G := by
    rw [hROW]
    simp [size_zeroCells, Value.cells]
    omega
  obtain ⟨W1, hW1⟩ : ∃ W1, W1 = w.drew.alloc (.cells ROW 39) := ⟨_, rfl⟩
  have hap2 : ∀ ty, (Builtin.append_ #[22, 3] ty #[.slice (some ⟨g, 0, none⟩) 0 cap, .int .i64 ((cap : Int) + 1)]).run Try.prog w = .ok (.slice (some ⟨w.heap.size, 0, none⟩) (cap + 1) G) W1 := fun ty => by rw [hW1]; exact hap ty
  have gN : W1.heap[w.heap.size]? = some (.cells ROW.toList.toArray 39 (0, 0)) := by rw [hW1]; exact blk_new w.drew _
  have gl : g < w.heap.size := (Array.getElem?_eq_some_iff.1 hg).1
  have vl : vb < w.heap.size := (Array.getElem?_eq_some_iff.1 hv).1
  have gg : W1.heap[g]? = some (.cells cur.toArray 39 (0, 0)) := by rw [hW1]; exact blk_alloc (w := w.drew) hg _
  have gv : W1.heap[vb]? = some (.cells #[.int .u64 x] T (0, 0)) := by rw [hW1]; exact blk_alloc (w := w.drew) hv _
  have hB1 : Below base w W1 := by rw [hW1]; exact (((Below.refl _ w).drew).alloc hbw _)
  obtain ⟨w2, hc2, hg2, hb2, ho2⟩ := run_copy_into W1 w.heap.size 0 (cap + 1) G _ gN ⟨vb, 0, none⟩ 1 1 [.int .u64 x] (by show 1 = min 1 (cap + 1); omega) (fun j u hj => by
    rw [Addr.add_lit, blk_cell gv]
    simpa using hj) (by simp at hRl ⊢; omega) (by simp [Value.oneCell'])
  have gg2 : w2.heap[g]? = some (.cells cur.toArray 39 (0, 0)) := (ho2 g (by omega)).trans gg
  obtain ⟨w3, hc3, hg3, hb3, ho3⟩ := run_copy_into w2.drew w.heap.size 1 cap (G - 1) _ hg2 ⟨g, 0, none⟩ cap cap (nums .u64 l) (by rw [show (nums .u64 l).length = cap by simp [nums, hl]]; exact (Nat.min_self cap).symm) (fun j u hj => cells_news gg2 hct j u hj) (by simp [nums] at hRl ⊢; omega) nums_one
  have HB := Aside0.mk (hb3 base w hbw (hb2 base w hbw hB1).drew)
  have HR := Aside0.mk (rd_of_cells (l := x :: l) (n := cap + 1) hg3 (by simp [hl]) (by omega) (ins_row2 hl))
  have hcp3 : ∀ ty, (Builtin.copy_ #[22, 22] ty #[.slice (some ⟨w.heap.size, 1, none⟩) cap (G - 1), .slice (some ⟨g, 0, none⟩) cap cap]).run Try.prog w2.drew = .ok (goInt cap) w3 := fun ty => by
    have := hc3 ty
    rwa [show (nums .u64 l).length = cap by simp [nums, hl]] at this
  have HC3 := Aside0.mk hcp3
  have hc2' : ∀ ty, (Builtin.copy_ #[22, 22] ty #[.slice (some ⟨w.heap.size, 0, none⟩) (cap + 1) G, .slice (some ⟨vb, 0, none⟩) 1 1]).run Try.prog W1 = .ok (goInt 1) w2 := fun ty => hc2 ty
  have HAP := Aside0.mk hap2
  have hq2 : ((0 : Int) == (cap : Int)) = false := by rw [beq_eq_false_iff_ne]; omega
  have hq1 : ¬ ((0 : Int) = (cap : Int)) := by omega
  have hG1 : (1 : Int) ≤ (G : Int) := by omega
  have hGc : ¬ (G = 1) := by omega
  have hw1 : IntKind.i64.wrap 1 = 1 := by rw [IntKind.wrap_i64]; rfl
  have hn2 : (1 : Int) ≤ (cap : Int) + 1 := by omega
  have hn3 : (0 : Int) ≤ (cap : Int) := by omega
  have hc0 : ¬ (cap = 0) := by omega
  clear hg hct hl hg3 hb3 ho3 hg2 hb2 ho2 hv hc3 hcp3 hc2 hap hap2 gN gg gv gg2 gl vl hW1 hROW hRl hG hB1 hi hz0 hz1 hz2
  go_enter Try.func42, Try.ntmps42
  go_wp2_with (at_builtin; refine Lib.wpList_append_run _ rfl _ _ _ _ rfl _ _ rfl rfl _ _ (HAP.out _) ?_)
  go_region_law (refine step_copy_known rfl _ _ 22 22 rfl _ _ (by simp [Act.eval, Act.put]) (by simp [Act.eval, Act.put]) (HC3.out _) ?_)
  go_wp2
  refine bodyPost_ret (results_tmp rfl _ _ _) rfl ?_
  exact ⟨_, rfl, Vw.of_Rd HR.out hGn (fun ad e _ => by cases e; exact hbw), HB.out⟩
/-- slices.Insert of one word, at the head. -/
theorem insert64 (base : Nat) (v : Value) (n : Nat) (l : List Int) (x : Int) (vb : Nat) (T : TypeId) (w : World) (how : w.ownsRow base 39 1 v n (nums .u64 l)) (hlim : n ≤ 17592186044400) (hb : base ≤ w.heap.size) (hv : w.heap[vb]? = some (.cells #[.int .u64 x] T (0, 0))) (hne : v.ownBlock ≠ some vb) :
    Calls Try.prog 42 #[v, .int .i64 0, .slice (some ⟨vb, 0, none⟩) 1 1] w (InsPost base (x :: l) w) := by
  have hl : l.length = n := by have := how.1; simpa [nums] using this
  rcases Nat.eq_zero_or_pos n with h0 | h0
  · subst h0
    obtain rfl : l = [] := List.eq_nil_of_length_eq_zero hl
    exact insert64_end base v x vb T w how hb hv
  · rcases how.2 with ⟨rfl, h1⟩ | ⟨g, cap, cur, rfl, hg, hh, hc, hm, hs, ht⟩
    · omega
    · unfold maxLen at hm
      rw [Nat.mul_one] at hs ht
      have hh' : w.heap[g]? = some (.cells cur.toList.toArray 39 (0, 0)) := hh
      rcases Nat.lt_or_ge cap (n + 1) with h2 | h2
      · exact insert64_grow base g n cap l x vb T cur.toList w hh' ht h0 hl hc h2 hlim hb hv
      · exact insert64_shift base g n cap l x vb T cur.toList w hh' (by simpa using hs) ht h0 hl h2 (by omega) (by omega) hg (fun h => hne (by simp [Value.ownBlock, h])) hv
end Go.Proofs.Ytcgcffnhlafneaa.Hand

/- quot.Div by hand: a quotient, and what is left. Conditions: words, not too many. -/
namespace Go.Proofs.Ytcgcffnhlafneaa.Hand
open Go.RowKit Go.Proofs.YtcgcffnhlafneaaW.PrintWords Go.Proofs.YtcgcffnhlafneaaW.PrintMore Go.Proofs.Ytcgcffnhlafneaa.Num
set_option linter.unusedVariables false
set_option linter.unusedSimpArgs false
attribute [local go_sem] Oper.semAt_some max2_int min2_int max_two min_two
attribute [local go_sem ↓] Go.wp_at_zero Go.wp_at_succ

/-! ### plain -/
theorem bl_bounds {n : Nat} (h : 0 < n) : ∃ k, bl n = k + 1 ∧ 2 ^ k ≤ n ∧ n < 2 ^ (k + 1) := by
  have h1 : bl n ≠ 0 := fun h0 => by have := (bl_le (n := n) (k := 0)).1 (Nat.le_of_eq h0); simp at this; omega
  obtain ⟨k, hk⟩ : ∃ k, bl n = k + 1 := ⟨bl n - 1, by omega⟩
  refine ⟨k, hk, ?_, bl_le.1 (Nat.le_of_eq hk)⟩
  rcases Nat.lt_or_ge n (2 ^ k) with h2 | h2
  · have := bl_le.2 h2; omega
  · exact h2
/-- How far a divisor is moved, that its highest bit be set. -/
theorem div_move {d0 m : Nat} (hm : (dig W d0).length = m + 1) : ∃ MV : Nat, 64 * ((m : Int) + 1) - (bl d0 : Int) = (MV : Int) ∧ MV < 64 ∧ W ^ m ≤ d0 * 2 ^ MV ∧ (dig W (d0 * 2 ^ MV)).length = m + 1 := by
  have hd : 0 < d0 := by
    rcases Nat.eq_zero_or_pos d0 with h | h
    · subst h; rw [dig_zero] at hm; simp at hm
    · exact h
  obtain ⟨k, hk, h1, h2⟩ := bl_bounds hd
  have hlt : d0 < W ^ (m + 1) := by have := val_lt W_pos (dig_inB W_gt d0); rwa [val_dig W_gt, hm] at this
  have hge : W ^ m ≤ d0 := by
    rcases Nat.lt_or_ge d0 (W ^ m) with h | h
    · have := dig_length_le W_gt h; omega
    · exact h
  have b1 : bl d0 ≤ 64 * (m + 1) := bl_le.2 (by rw [← W_pow]; exact hlt)
  have b2 : ¬ bl d0 ≤ 64 * m := fun h => by
    have := bl_le.1 h
    rw [← W_pow] at this
    omega
  refine ⟨64 * (m + 1) - bl d0, by omega, by omega, Nat.le_trans hge (Nat.le_mul_of_pos_right _ (Nat.two_pow_pos _)), ?_⟩
  have h3 : d0 * 2 ^ (64 * (m + 1) - bl d0) < W ^ (m + 1) := by
    have := Nat.mul_lt_mul_of_pos_right h2 (Nat.two_pow_pos (64 * (m + 1) - bl d0))
    rw [← Nat.pow_add, ← hk, show bl d0 + (64 * (m + 1) - bl d0) = 64 * (m + 1) by omega, ← W_pow] at this
    exact this
  have h4 := dig_length_le W_gt h3
  have h5 := dig_length_lt W_gt (k := m) (Nat.le_trans hge (Nat.le_mul_of_pos_right _ (Nat.two_pow_pos (64 * (m + 1) - bl d0))))
  omega
theorem cmpv_neg {m n : Nat} (h : m < n) : cmpv m n = -1 := by unfold cmpv; rw [if_pos h]
theorem cmpv_nonneg {m n : Nat} (h : n ≤ m) : cmpv m n = 0 ∨ cmpv m n = 1 := by unfold cmpv; rw [if_neg (by omega)]; split <;> simp
/-- The two highest words and what is left: less than a word times the divisor. -/
theorem next_lt {x rem D : Nat} (hx : x < W) (hr : rem < D) : x + W * rem < W * D := by
  have h := Nat.mul_le_mul_left W hr
  rw [Nat.mul_succ] at h
  omega
theorem val_word {x : Nat} {l : List Int} (h : InB W l) : val W ((x : Int) :: l) = x + W * val W l := by simp [val]
theorem div_done {a0 d0 MV q rem : Nat} (hd : 0 < d0) (hq : q = a0 * 2 ^ MV / (d0 * 2 ^ MV)) (hr : rem = a0 * 2 ^ MV % (d0 * 2 ^ MV)) : q = a0 / d0 ∧ rem / 2 ^ MV = a0 % d0 := by
  have hp := Nat.two_pow_pos MV
  refine ⟨by rw [hq, Nat.mul_div_mul_right _ _ hp], ?_⟩
  rw [hr, Nat.mul_mod_mul_right, Nat.mul_div_cancel _ hp]
theorem ownsRow_lower {w : World} {b b' : Nat} {e : TypeId} {v : Value} {n : Nat} {xs : List Value} (h : w.ownsRow b e 1 v n xs) (hb : b' ≤ b) : w.ownsRow b' e 1 v n xs := by
  refine ⟨h.1, ?_⟩
  rcases h.2 with h | ⟨g, cap, cur, h1, h2, h3⟩
  · exact .inl h
  · exact .inr ⟨g, cap, cur, h1, Nat.le_trans hb h2, h3⟩

/-- What Div leaves. -/
def DivPost (P0_ : Nat → Prop) (q r : List Int) (err : Int) (w : World) (e : Ending) (w' : World) : Prop := ∃ v1 v2 : Value, e = .returned (.tuple #[v1, v2, .int .i64 err]) ∧ Vw w' w.heap.size (fun k => P0_ k ∨ w.heap.size ≤ k) v1 q ∧ Vw w' w.heap.size (fun k => P0_ k ∨ w.heap.size ≤ k) v2 r ∧ Below w.heap.size w w'
theorem norm_rd {w : World} {A : Option Addr} {n : Nat} {l : List Int} (h : Rd w A n l) (hi : InB Num.W l) : Rd w A (dig Num.W (val Num.W l)).length (dig Num.W (val Num.W l)) := by
  have hf := norm_facts hi
  have := h.take (dig Num.W (val Num.W l)).length (by rw [← h.1]; exact hf.1)
  rwa [hf.2] at this
set_option maxRecDepth 100000 in
set_option maxHeartbeats 1000000 in
theorem div_zero (P0_ : Nat → Prop) (A B : Option Addr) (la ca lb cb : Nat) (a b : List Int) (w : World) (ha : Rd w A la a) (hb : Rd w B lb b) (hla : la ≤ ca) (hlb : lb ≤ cb) (hia : InB Num.W a) (hib : InB Num.W b) (hz : val Num.W b = 0) :
    Calls Try.prog 25 #[.slice A la ca, .slice B lb cb] w (DivPost P0_ [] [] 2 w) := by
  have hna := nat_norm_at A la ca a w ha hla hia
  have hnb := nat_norm_at B lb cb b w hb hlb hib
  rw [hz, dig_zero] at hnb
  have HNA := Aside0.mk hna
  have HNB := Aside0.mk hnb
  clear hna hnb ha hb hia hib hz
  go_enter Try.func25, Try.ntmps25
  go_wp2_with (first
    | ((go_at_call 41); (with_reducible refine HNA.out.mono ?_); (rintro e w1 ⟨rfl, rfl⟩))
    | ((go_at_call 41); (with_reducible refine HNB.out.mono ?_); (rintro e w1 ⟨rfl, rfl⟩)))
  go_ret3
  exact ⟨_, _, rfl, Vw.nil _ _ _, Vw.nil _ _ _, Below.refl _ _⟩
set_option maxRecDepth 100000 in
set_option maxHeartbeats 1000000 in
theorem div_less (P0_ : Nat → Prop) (A B : Option Addr) (la ca lb cb : Nat) (a b : List Int) (w : World) (hs : Vw w w.heap.size (fun k => P0_ k) (.slice A la ca) a) (hb : Rd w B lb b) (hlb : lb ≤ cb) (hia : InB Num.W a) (hib : InB Num.W b) (hlt : val Num.W a < val Num.W b) :
    Calls Try.prog 25 #[.slice A la ca, .slice B lb cb] w (DivPost P0_ [] (dig Num.W (val Num.W a)) 0 w) := by
  obtain ⟨hl, hla, hf⟩ := hs.of
  have ha : Rd w A la a := Rd.of_C (Kd.F_now hf)
  have hna := nat_norm_at A la ca a w ha hla hia
  have hnb := nat_norm_at B lb cb b w hb hlb hib
  have hcm := nat_cmp A B _ _ (dig Num.W (val Num.W a)).length (dig Num.W (val Num.W b)).length _ _ w (norm_rd ha hia) (norm_rd hb hib) (dig_inB Num.W_gt _) (dig_inB Num.W_gt _)
  rw [val_dig Num.W_gt, val_dig Num.W_gt, cmpv_neg hlt] at hcm
  obtain ⟨NA, hNA⟩ : ∃ NA, NA = (dig Num.W (val Num.W a)).length := ⟨_, rfl⟩
  obtain ⟨NB, hNB⟩ : ∃ NB, NB = (dig Num.W (val Num.W b)).length := ⟨_, rfl⟩
  have hB0 : NB ≠ 0 := fun h => by
    have := (dig_eq_nil Num.W_gt).1 (List.eq_nil_of_length_eq_zero (hNB ▸ h)); omega
  have hv : Vw w w.heap.size (fun k => P0_ k ∨ w.heap.size ≤ k) (.slice A NA NA) (dig Num.W (val Num.W a)) := by
    have h1 := norm_facts hia
    rw [← hNA] at h1
    have := hs.cut (base' := w.heap.size) (ok' := fun k => P0_ k ∨ w.heap.size ≤ k) NA (by omega) (fun _ h => .inl h)
    rwa [h1.2] at this
  rw [← hNA] at hna
  rw [← hNB] at hnb
  rw [← hNA, ← hNB] at hcm
  have HNA := Aside0.mk hna
  have HNB := Aside0.mk hnb
  have HCM := Aside0.mk hcm
  have HV := Aside0.mk hv
  have hz : ((NB : Int) == 0) = false := by rw [beq_eq_false_iff_ne]; omega
  clear hna hnb ha hb hia hib hs hl hla hf hcm hNA hNB hlt hv
  go_enter Try.func25, Try.ntmps25
  go_wp2_with (first
    | ((go_at_call 41); (with_reducible refine HNA.out.mono ?_); (rintro e w1 ⟨rfl, rfl⟩))
    | ((go_at_call 41); (with_reducible refine HNB.out.mono ?_); (rintro e w1 ⟨rfl, rfl⟩))
    | ((go_at_call 36); (with_reducible refine HCM.out.mono ?_); (rintro e w1 ⟨rfl, hb1⟩); (have HB1 := Aside0.mk hb1); (clear hb1)))
  go_ret3
  exact ⟨_, _, rfl, Vw.nil _ _ _, Kd.V_below HV.out HB1.out, HB1.out⟩
end Go.Proofs.Ytcgcffnhlafneaa.Hand

/- quot.Div's main way by hand: long division. Conditions: words, not too many. -/
namespace Go.Proofs.Ytcgcffnhlafneaa.Hand
open Go.RowKit Go.Proofs.YtcgcffnhlafneaaW.PrintWords Go.Proofs.YtcgcffnhlafneaaW.PrintMore Go.Proofs.Ytcgcffnhlafneaa.Num
set_option linter.unusedVariables false
set_option linter.unusedSimpArgs false
attribute [local go_sem] Oper.semAt_some max2_int min2_int max_two min_two
attribute [local go_sem ↓] Go.wp_at_zero Go.wp_at_succ

theorem lt_alloc (w : World) (o : Obj) : w.heap.size < (w.alloc o).heap.size := by rw [World.size_alloc]; exact Nat.lt_succ_self _
theorem blk_below2 {w w1 : World} {g : Nat} {o : Obj} (hb : Below w.heap.size w w1) (h : w.heap[g]? = some o) : w1.heap[g]? = some o := blk_below h hb
/-- slices.Insert of a word ahead of a number's words, the row being made by slices.Clone, either before or behind the word's own block. -/
theorem insert_any (N : Nat) (v : Value) (n : Nat) (l : List Int) (x : Int) (vb b1 : Nat) (w : World) (hl : l.length = n) (how : w.ownsRow b1 39 1 v n (nums .u64 l)) (hb : N ≤ b1) (hlim : n ≤ 17592186044400) (hN : N ≤ w.heap.size) (hv : w.heap[vb]? = some (.cells #[.int .u64 x] 39 (0, 0)))
    (hne : vb < b1 ∨ ∀ k, v.ownBlock = some k → k < vb) :
    Calls Try.prog 42 #[v, .int .i64 0, .slice (some ⟨vb, 0, none⟩) 1 1] w (InsPost N (x :: l) w) :=
  insert64 N v n l x vb 39 w (ownsRow_lower how hb) hlim hN hv (fun h => by
    rcases hne with h1 | h1
    · have := (how.lt vb h).1; omega
    · have := h1 vb h; omega)
theorem InsPost.at {N : Nat} {r : List Int} {w w' : World} {e : Ending} {n : Nat} (h : InsPost N r w e w') (hn : r.length = n) : ∃ E c, e = .returned (.slice E n c) ∧ n ≤ c ∧ Rd w' E n r ∧ Below N w w' := by
  obtain ⟨v, rfl, hv, hb⟩ := h
  obtain ⟨E, c, rfl, hc, hr⟩ := hv.reads
  subst hn
  exact ⟨E, c, rfl, hc, hr, hb⟩
theorem NewPost.at {r : List Int} {w w' : World} {e : Ending} {n : Nat} (h : NewPost r w e w') (hn : r.length = n) : ∃ E c, e = .returned (.slice E n c) ∧ n ≤ c ∧ Rd w' E n r ∧ Vw w' w.heap.size (fun k => w.heap.size ≤ k) (.slice E n c) r ∧ Below w.heap.size w w' := by
  obtain ⟨v, rfl, hv, hb⟩ := h
  obtain ⟨E, c, rfl, hc, hr⟩ := hv.reads
  subst hn
  exact ⟨E, c, rfl, hc, hr, hv, hb⟩
set_option maxRecDepth 100000 in
set_option maxHeartbeats 4000000 in
theorem div_main (P0_ : Nat → Prop) (A B : Option Addr) (la ca lb cb : Nat) (a b : List Int) (w : World) (ha : Rd w A la a) (hb : Rd w B lb b) (hla : la ≤ ca) (hlb : lb ≤ cb) (hia : InB Num.W a) (hib : InB Num.W b) (hna0 : la ≤ 17592186043904) (hnb0 : lb ≤ 17592186043904)
    (hz : 0 < val Num.W b) (hle : val Num.W b ≤ val Num.W a) :
    Calls Try.prog 25 #[.slice A la ca, .slice B lb cb] w (DivPost P0_ (dig Num.W (val Num.W a / val Num.W b)) (dig Num.W (val Num.W a % val Num.W b)) 0 w) := by
  have hna := nat_norm_at A la ca a w ha hla hia
  have hnb := nat_norm_at B lb cb b w hb hlb hib
  have hra := norm_rd ha hia
  have hrb := norm_rd hb hib
  have hcm := nat_cmp A B _ _ (dig Num.W (val Num.W a)).length (dig Num.W (val Num.W b)).length _ _ w hra hrb (dig_inB Num.W_gt _) (dig_inB Num.W_gt _)
  rw [val_dig Num.W_gt, val_dig Num.W_gt] at hcm
  have hlna : (dig Num.W (val Num.W a)).length ≤ la := by have := (norm_facts hia).1; rwa [ha.1] at this
  have hlnb : (dig Num.W (val Num.W b)).length ≤ lb := by have := (norm_facts hib).1; rwa [hb.1] at this
  generalize val Num.W a = a0 at *
  generalize val Num.W b = d0 at *
  obtain ⟨cv, hcv, hcv0⟩ : ∃ cv : Int, cv = cmpv a0 d0 ∧ 0 ≤ cv := ⟨_, rfl, by rcases cmpv_nonneg hle with h | h <;> rw [h] <;> omega⟩
  rw [← hcv] at hcm
  obtain ⟨m, hm⟩ : ∃ m, (dig Num.W d0).length = m + 1 := ⟨(dig Num.W d0).length - 1, by
    have : (dig Num.W d0).length ≠ 0 := fun h => by have := (dig_eq_nil Num.W_gt).1 (List.eq_nil_of_length_eq_zero h); omega
    omega⟩
  obtain ⟨NA, hNA⟩ : ∃ NA, NA = (dig Num.W a0).length := ⟨_, rfl⟩
  have hln := fun W hr => nat_len B (m + 1) (m + 1) (dig Num.W d0) W hr (Nat.le_refl _) (dig_inB Num.W_gt _) (by unfold LIM; omega)
  rw [val_dig Num.W_gt] at hln
  obtain ⟨MV, hMV, hMV64, htop, hDl⟩ := div_move hm
  have hsd := fun W hr => nat_shl B (m + 1) (m + 1) (dig Num.W d0) (MV : Int) W hr (Nat.le_refl _) (dig_inB Num.W_gt _) (by omega) (by omega)
  have hsa := fun W hr => nat_shl A NA NA (dig Num.W a0) (MV : Int) W hr (Nat.le_refl _) (dig_inB Num.W_gt _) (by omega) (by omega)
  rw [val_dig Num.W_gt, Int.toNat_natCast] at hsd hsa
  rw [← hNA] at hna hra hcm
  rw [hm] at hnb hrb hcm
  obtain ⟨D, hD⟩ : ∃ D, D = d0 * 2 ^ MV := ⟨_, rfl⟩
  obtain ⟨A1, hA1⟩ : ∃ A1, A1 = a0 * 2 ^ MV := ⟨_, rfl⟩
  rw [← hD] at hsd htop hDl
  rw [← hA1] at hsa
  have hDp : 0 < D := Nat.lt_of_lt_of_le (Nat.pow_pos Num.W_pos) htop
  have hDlt : D < Num.W ^ (m + 1) := by have := val_lt Num.W_pos (dig_inB Num.W_gt D); rwa [val_dig Num.W_gt, hDl] at this
  have hNL : (dig Num.W A1).length ≤ la + 1 := dig_len_of_lt (by
    rw [hA1, Nat.pow_succ]
    have h1 : a0 < Num.W ^ la := Nat.lt_of_lt_of_le (by have := val_lt Num.W_pos (dig_inB Num.W_gt a0); rwa [val_dig Num.W_gt] at this) (Nat.pow_le_pow_right Num.W_pos hlna)
    have h2 : 2 ^ MV < Num.W := Nat.pow_lt_pow_right (by decide) hMV64
    exact Nat.mul_lt_mul_of_lt_of_lt h1 h2)
  obtain ⟨NL, hNL1⟩ : ∃ NL, NL = (dig Num.W A1).length := ⟨_, rfl⟩
  have hmk := fun W => run_make_len NL (by omega) W
  have hdn : ∀ q rem : Nat, q = A1 / D → rem = A1 % D → q = a0 / d0 ∧ rem / 2 ^ MV = a0 % d0 := fun q rem h1 h2 => div_done hz (by rw [h1, hA1, hD]) (by rw [h2, hA1, hD])
  have hrl : ∀ rem, rem < D → (dig Num.W rem).length ≤ m + 1 := fun rem h => dig_len_of_lt (Nat.lt_trans h hDlt)
  have hfg : ∀ (W : World) (R E : Option Addr) (n c ce rem x : Nat), rem < D → x < Num.W → n = (dig Num.W (x + Num.W * rem)).length → Rd W R n (dig Num.W (x + Num.W * rem)) → Rd W E (m + 1) (dig Num.W D) →
      Calls Try.prog 44 #[.slice R n c, .slice E (m + 1) ce] W (FigPost ((x + Num.W * rem) / D) (dig Num.W ((x + Num.W * rem) % D)) W) := fun W R E n c ce rem x hr hx hn h1 h2 => by
    have h3 := next_lt hx hr
    have h4 : n ≤ m + 2 := by
      rw [hn]
      refine dig_len_of_lt (Nat.lt_trans h3 ?_)
      rw [Nat.pow_succ, Nat.mul_comm]
      exact Nat.mul_lt_mul_of_pos_right hDlt Num.W_pos
    have h := quot_figure R E n c m ce _ _ W h1 h2 (dig_inB Num.W_gt _) (dig_inB Num.W_gt _) (by omega) (by omega) (by rw [val_dig Num.W_gt]; exact htop) (by rw [val_dig Num.W_gt, val_dig Num.W_gt]; exact h3)
    rwa [val_dig Num.W_gt, val_dig Num.W_gt] at h
  have HDL := Aside0.mk hDl
  have HNA := Aside0.mk hna
  have HNB := Aside0.mk hnb
  have HCM := Aside0.mk hcm
  have HRA := Aside0.mk hra
  have HRB := Aside0.mk hrb
  have HLN := Aside0.mk hln
  have HSD := Aside0.mk hsd
  have HSA := Aside0.mk hsa
  have HFG := Aside0.mk hfg
  have HDN := Aside0.mk hdn
  have HRL := Aside0.mk hrl
  have HNLL := Aside0.mk hNL1
  have hNLb : NL ≤ 17592186043905 := by omega
  have hm0 : m ≤ 17592186043904 := by omega
  have hb1 : (bl d0 : Int) ≤ 64 * ((m : Int) + 1) := by omega
  have HDP := Aside0.mk hDp
  clear hna hnb hcm hra hrb hln hsd hsa hfg hdn hrl ha hb hia hib hlna hlnb hle hz hcv hm hNA htop hDl hD hA1 hDp hDlt hNL hNL1 hmk
  have hmk := fun W => run_make_len NL (by omega) W
  go_enter Try.func25, Try.ntmps25
  go_wp2_with (first
    | ((go_at_call 41); (with_reducible refine HNA.out.mono ?_); (rintro e w1 ⟨rfl, rfl⟩))
    | ((go_at_call 41); (with_reducible refine HNB.out.mono ?_); (rintro e w1 ⟨rfl, rfl⟩))
    | ((go_at_call 36); (with_reducible refine HCM.out.mono ?_); (rintro e w1 ⟨rfl, hb1⟩); (have HB1 := Aside0.mk hb1); (clear hb1))
    | ((go_at_call 30); (with_reducible refine (HLN.out _ (HRB.out.later HB1.out)).mono ?_); (rintro e w2 ⟨rfl, rfl⟩))
    | ((go_at_call 29); (with_reducible refine (HSD.out _ (HRB.out.later HB1.out)).mono ?_); (rintro e w3 hnp); (obtain ⟨E, ce, rfl, hce, hre, hve, hb3⟩ := hnp.at HDL.out); (have HE := Aside0.mk hre); (have HB3 := Aside0.mk hb3); (clear hnp hve hb3 hre hce))
    | ((go_at_call 29); (with_reducible refine (HSA.out _ (HRA.out.later (below_then HB1.out HB3.out))).mono ?_); (rintro e w4 hnp); (obtain ⟨X, cx, rfl, hcx, hrx, hvx, hb4⟩ := hnp.at HNLL.out.symm); (have HX := Aside0.mk hrx); (have HCX := Aside0.mk hcx); (have HB4 := Aside0.mk hb4); (clear hnp hvx hb4 hrx hcx)))
  clear hmk
  go_loopw [10, 11] (fun rv iv wr => ∃ (i rem : Nat) (R : Option Addr) (cr : Nat) (q : List Int), i ≤ NL ∧ iv = .int .i64 ((i : Int) - 1) ∧ rv = .slice R (dig Num.W rem).length cr ∧ Aside0 (ByInv (dig Num.W A1) D i q rem) ∧ Aside0 (Row64 wr w4.heap.size q) ∧ Aside0 (Vw wr 0 (fun k => w4.heap.size + 1 ≤ k) (.slice R (dig Num.W rem).length cr) (dig Num.W rem)) ∧ Aside0 (Below w4.heap.size w4 wr)) (fun _ iv _ => (intOf iv + 1).toNat)
  case atStart =>
    refine ⟨NL, 0, none, 0, List.replicate NL 0, Nat.le_refl _, rfl, by rw [dig_zero]; rfl, ⟨?_⟩, ⟨Row64.made (w := w4) NL⟩, ⟨by rw [dig_zero]; exact Vw.nil _ _ _⟩, ⟨below_alloc (Below.refl _ _) _⟩⟩
    have h := ByInv.first (dig Num.W A1) HDP.out
    rwa [← HNLL.out] at h
  case round =>
    obtain ⟨i, rem, R, cr, q, hi, rfl, rfl, HI, HQ, HV, HB⟩ := hrel
    have hrl := HRL.out rem HI.out.lt
    rcases Nat.eq_zero_or_pos i with rfl | hi0
    · rw [show (((0 : Nat) : Int) - 1) = -1 by omega]
      obtain ⟨hd1, hd2⟩ := HI.out.done
      rw [val_dig Num.W_gt] at hd1 hd2
      obtain ⟨hq1, hq2⟩ := HDN.out _ _ hd1 hd2
      have hql : q.length = NL := by rw [HI.out.len, ← HNLL.out]
      have hqr := HQ.out.rd hql (by omega)
      have hn1 := nat_norm_at _ NL NL q wr hqr (Nat.le_refl _) HI.out.inb
      have hqd := norm_rd hqr HI.out.inb
      obtain ⟨hvn, hvc, hvf⟩ := HV.out.of
      have hs1 := nat_shr R (dig Num.W rem).length cr (dig Num.W rem) (MV : Int) wr (Rd.of_C (Kd.F_now hvf)) hvc (dig_inB Num.W_gt _) (by omega) (by omega)
      rw [val_dig Num.W_gt, Int.toNat_natCast, hq2] at hs1
      rw [hq1] at hn1 hqd
      have HN1 := Aside0.mk hn1
      have HS1 := Aside0.mk hs1
      have HQD := Aside0.mk hqd
      clear hn1 hs1 hqd hvn hvc hvf hqr hql hq1 hq2 hd1 hd2 hrl
      go_wp2_with (first
        | ((go_at_call 41); (with_reducible refine HN1.out.mono ?_); (rintro e w6 ⟨rfl, rfl⟩))
        | ((go_at_call 26); (with_reducible refine HS1.out.mono ?_); (rintro e w7 ⟨v, rfl, hv, hb7⟩); (have HV7 := Aside0.mk hv); (have HB7 := Aside0.mk hb7); (clear hv hb7)))
      go_ret3
      have hbw := below_then (below_then (below_then HB1.out HB3.out) HB4.out) HB.out
      refine ⟨_, _, rfl, Vw.of_Rd (HQD.out.later HB7.out) (Nat.le_refl _) (fun ad e _ => by cases e; exact .inr (below_then (below_then HB1.out HB3.out) HB4.out).size), Kd.V_mono (base := 0) (Kd.V_lower HV7.out (Nat.zero_le _)) (fun k h => .inr (Nat.le_trans hbw.size h)), below_then hbw HB7.out⟩
    · obtain ⟨j, rfl⟩ : ∃ j, i = j + 1 := ⟨i - 1, by omega⟩
      rw [show (((j + 1 : Nat) : Int) - 1) = (j : Int) by omega]
      have hxw := inB_getD Num.W_pos (dig_inB Num.W_gt A1) j
      obtain ⟨x, hx⟩ := Int.eq_ofNat_of_zero_le hxw.1
      have hxl : x < Num.W := by rw [hx] at hxw; omega
      obtain ⟨ad, rfl, hxc⟩ := (HX.out.later HB.out).2.2 (by omega)
      have hxj := hxc j (by omega)
      rw [hx] at hxj
      obtain ⟨hvn, hvc, hvf⟩ := HV.out.of
      have hrd : Rd wr R (dig Num.W rem).length (dig Num.W rem) := Rd.of_C (Kd.F_now hvf)
      have hL1 : ((x : Int) :: dig Num.W rem).length = (dig Num.W rem).length + 1 := rfl
      have hin1 : InB Num.W ((x : Int) :: dig Num.W rem) := inB_cons.2 ⟨⟨by omega, by rw [W_eq] at hxl ⊢; omega⟩, dig_inB Num.W_gt _⟩
      have hvx : val Num.W ((x : Int) :: dig Num.W rem) = x + Num.W * rem := by rw [val_word (dig_inB Num.W_gt _), val_dig Num.W_gt]
      obtain ⟨L1, hL⟩ : ∃ L1, L1 = (dig Num.W rem).length + 1 := ⟨_, rfl⟩
      obtain ⟨L2, hL2⟩ : ∃ L2, L2 = (dig Num.W (x + Num.W * rem)).length := ⟨_, rfl⟩
      have hnm : ∀ (W : World) (R' : Option Addr) (c' : Nat), Rd W R' L1 ((x : Int) :: dig Num.W rem) → L1 ≤ c' → Calls Try.prog 41 #[.slice R' L1 c'] W (fun e w' => e = .returned (.slice R' L2 L2) ∧ W = w') ∧ Rd W R' L2 (dig Num.W (x + Num.W * rem)) := fun W R' c' h1 h2 => by
        have h3 := nat_norm_at R' L1 c' _ W h1 h2 hin1
        have h4 := norm_rd h1 hin1
        rw [hvx, ← hL2] at h3 h4
        exact ⟨h3, h4⟩
      have hfig := fun W R' c' h1 h2 => HFG.out W R' E L2 c' ce rem x HI.out.lt hxl hL2 h1 h2
      have hst := HI.out.step (i := j) (x := x) (f := (x + Num.W * rem) / D) (s := (x + Num.W * rem) % D) (by rw [← HNLL.out]; omega) hx (by rw [← W_eq]; exact Nat.div_lt_of_lt_mul (by rw [Nat.mul_comm D]; exact next_lt hxl HI.out.lt)) (Nat.mod_lt _ HDP.out) (by
        have := Nat.div_add_mod (x + Num.W * rem) D
        rw [Nat.mul_comm, this, ← W_eq, Nat.mul_comm rem, Nat.add_comm])
      have hql : q.length = NL := by rw [HI.out.len, ← HNLL.out]
      have QX := Aside0.mk hxj
      have HRD := Aside0.mk hrd
      have HL1 := Aside0.mk (show ((x : Int) :: dig Num.W rem).length = L1 by rw [hL]; exact hL1)
      have HNM := Aside0.mk hnm
      have HFIG := Aside0.mk hfig
      have HST := Aside0.mk hst
      have HQL := Aside0.mk hql
      have hrb : (dig Num.W rem).length ≤ 17592186044000 := by omega
      have hj0 : (0 : Int) ≤ (j : Int) := by omega
      have hjN : (j : Int) < (NL : Int) := by omega
      have hjNN : j < NL := by omega
      generalize (x + Num.W * rem) / D = f at *
      generalize (x + Num.W * rem) % D = s at *
      generalize dig Num.W (x + Num.W * rem) = dxr at *
      clear hxc hxj hvn hvc hvf hrd hL1 hin1 hvx hnm hfig hst hql hxw hx hxl hL hL2 hi hrl hi0
      generalize hLR : (dig Num.W rem).length = LR at *
      have HLR := Aside0.mk hLR
      clear hLR
      go_wp2
      go_region_held3 (fun w' => w'.cell? (ad.add j) = some (.int .u64 (x : Int))) (first | (with_reducible exact QX.out) | with_reducible exact cell_later QX.out (by (repeat (with_reducible first | apply Below.refl | apply HBI.out | apply HBC.out | apply below_drew | apply below_alloc)); done))
        (first
          | ((go_at_call 43); (with_reducible refine (clone64 R LR cr (dig Num.W rem) _ (Rd.later HRD.out (by (repeat (with_reducible first | apply Below.refl | apply below_drew | apply below_alloc)); done)) (by omega)).mono ?_); (rintro e w6 ⟨v6, rfl, how, hb⟩); (have HOW := Aside0.mk how); (have HBR := Aside0.mk hb); (have HBC : Aside0 (Below wr.heap.size wr w6) := ⟨below_then (by (repeat (with_reducible first | apply Below.refl | apply below_drew | apply below_alloc)); done) hb⟩); (clear how hb))
          | ((go_at_call 42); (first
              | ((with_reducible refine (insert_any wr.heap.size v6 LR (dig Num.W rem) x w6.heap.size _ _ HLR.out (HOW.out.alloc _) ?_ (by omega) ?_ ?_ ?_).mono ?_); (exact Nat.le_refl _); (rw [World.size_alloc]; exact Nat.le_succ_of_le HBC.out.size); (exact blk_new _ _); (exact .inr fun k hk => (HOW.out.lt k hk).2))
              | ((with_reducible refine (insert_any wr.heap.size v6 LR (dig Num.W rem) x wr.heap.size _ _ HLR.out HOW.out ?_ (by omega) ?_ ?_ ?_).mono ?_); (exact Nat.le_of_lt (lt_alloc wr _)); (exact HBC.out.size); (exact blk_below2 HBR.out (blk_new wr _)); (exact .inl (lt_alloc wr _)))); (rintro e w7 hins); (obtain ⟨R7, c7, rfl, hc7, hr7, hb7⟩ := hins.at HL1.out); (have HR7 := Aside0.mk hr7); (have HC7 := Aside0.mk hc7); (have HBI : Aside0 (Below wr.heap.size wr w7) := ⟨(show Below wr.heap.size wr _ from by (repeat (with_reducible first | apply Below.refl | apply HBC.out | apply below_drew | apply below_alloc)); done).trans hb7⟩); (clear hins hc7 hr7 hb7))
          | ((go_at_call 41); (with_reducible refine ((HNM.out _ R7 c7 HR7.out HC7.out).1).mono ?_); (rintro e w8 ⟨rfl, rfl⟩)))
      all_goals
        clear HOW HBR HBC
        have HQ7 := Aside0.mk (blk_below HQ.out HBI.out)
        have HE7 := Aside0.mk (HE.out.later (below_then (below_then HB4.out HB.out) HBI.out))
        have HR8 := Aside0.mk (HNM.out _ R7 c7 HR7.out HC7.out).2
        have HLT := Aside0.mk (blk_lt HQ.out)
        go_wp2_with ((go_at_call 44); (with_reducible refine (HFIG.out _ R7 L2 HR8.out HE7.out).mono ?_); (rintro e w8 ⟨v8, rfl, hv8, hb8⟩); (have hq8 := blk_below HQ7.out hb8); (have k8 := (blk_cell hq8 j).trans (nums_at q j (by rw [HQL.out]; exact hjNN))); (have f8 := blk_frozen hq8 j); (obtain ⟨R8, c8, rfl, hc8, hr8⟩ := hv8.reads); (have HV8 := Aside0.mk hv8); (have HQ8 := Aside0.mk hq8); (have HB8 := Aside0.mk hb8); (clear hv8 hq8 hb8 hc8 hr8))
        refine ⟨⟨j, s, R8, c8, q.set j (f : Int), by omega, rfl, rfl, HST, ⟨Row64.set HQ8.out j _⟩, ⟨?_⟩, ⟨?_⟩⟩, by simp [intOf]⟩
        · exact Kd.V_far (vw_older HV8.out (Nat.le_trans HLT.out HBI.out.size)) (fun k h1 h2 => by subst h2; exact absurd h1 (Nat.not_succ_le_self _)) _
        · exact (HB.out.trans ((below_then HBI.out HB8.out).mono HB.out.size)).setCell (p := ⟨w4.heap.size, j, none⟩) (Nat.le_refl _) _
end Go.Proofs.Ytcgcffnhlafneaa.Hand

/- quot.Div, quot.ByWord: the contracts, as the callers' texts take them. Conditions: words, not too many. -/
namespace Go.Proofs.Ytcgcffnhlafneaa.Hand
open Go.RowKit Go.Proofs.YtcgcffnhlafneaaW.PrintWords Go.Proofs.YtcgcffnhlafneaaW.PrintMore Go.Proofs.Ytcgcffnhlafneaa.Num
set_option linter.unusedVariables false
set_option linter.unusedSimpArgs false
attribute [local go_sem] Oper.semAt_some max2_int min2_int max_two min_two

def QLIM : Nat := 17592186043904
def quot_Div.f (l0 l1 : List Int) : Option (List Int × List Int × Int) := if inb l0 = true ∧ inb l1 = true ∧ l0.length ≤ QLIM ∧ l1.length ≤ QLIM then some (if val W l1 = 0 then ([], [], 2) else (dig W (val W l0 / val W l1), dig W (val W l0 % val W l1), 0)) else none
theorem quot_div (P0_ : Nat → Prop) (A B : Option Addr) (la ca lb cb : Nat) (a b : List Int) (w : World) (hs : Vw w w.heap.size (fun k => P0_ k) (.slice A la ca) a) (hb : Rd w B lb b) (hlb : lb ≤ cb) (hia : InB Num.W a) (hib : InB Num.W b) (hna : la ≤ 17592186043904) (hnb : lb ≤ 17592186043904) (hd : 0 < val Num.W b) :
    Calls Try.prog 25 #[.slice A la ca, .slice B lb cb] w (DivPost P0_ (dig Num.W (val Num.W a / val Num.W b)) (dig Num.W (val Num.W a % val Num.W b)) 0 w) := by
  obtain ⟨hl, hla, hf⟩ := hs.of
  have ha : Rd w A la a := Rd.of_C (Kd.F_now hf)
  rcases Nat.lt_or_ge (val Num.W a) (val Num.W b) with h | h
  · rw [Nat.div_eq_of_lt h, Nat.mod_eq_of_lt h, dig_zero]
    exact div_less P0_ A B la ca lb cb a b w hs hb hlb hia hib h
  · exact div_main P0_ A B la ca lb cb a b w ha hb hla hlb hia hib hna hnb hd h
theorem quot_Div.calls (P0_ : Nat → Prop) (A0 : Option Addr) (c0 : Nat) (l0 : List Int) (A1 : Option Addr) (c1 : Nat) (l1 : List Int) (r1 r2 : List Int) (r3 : Int) (w : World)
    (hs0 : Kd.V (Kd.int .u64) 39 w w.heap.size (fun k_ => P0_ k_) (.slice A0 l0.length c0) l0) (hr1 : Kd.C (Kd.int .u64) w A1 l1.length l1) (hc1 : l1.length ≤ c1) (h : quot_Div.f l0 l1 = some (r1, r2, r3)) :
    Calls Try.prog 25 #[.slice A0 l0.length c0, .slice A1 l1.length c1] w fun e w' => ∃ v0_ v1_ : Value, e = .returned (.tuple #[v0_, v1_, .int .i64 r3]) ∧ Kd.V (Kd.int .u64) 39 w' w.heap.size (fun k_ => (P0_ k_ ∨ w.heap.size ≤ k_)) v0_ r1 ∧ Kd.V (Kd.int .u64) 39 w' w.heap.size (fun k_ => (P0_ k_ ∨ w.heap.size ≤ k_)) v1_ r2 ∧ Below w.heap.size w w' := by
  unfold quot_Div.f at h
  split at h
  · rename_i hi
    have hq : QLIM = 17592186043904 := rfl
    rw [hq] at hi
    have hs := hs0
    obtain ⟨hl, hla, hf⟩ := Vw.of hs
    split at h
    · rename_i hz
      simp only [Option.some.injEq, Prod.mk.injEq] at h
      obtain ⟨rfl, rfl, rfl⟩ := h
      exact div_zero P0_ A0 A1 _ c0 _ c1 l0 l1 w (Rd.of_C (Kd.F_now hf)) (Rd.of_C hr1) hla hc1 (inb_iff.1 hi.1) (inb_iff.1 hi.2.1) hz
    · rename_i hz
      simp only [Option.some.injEq, Prod.mk.injEq] at h
      obtain ⟨rfl, rfl, rfl⟩ := h
      exact quot_div P0_ A0 A1 _ c0 _ c1 l0 l1 w hs (Rd.of_C hr1) hc1 (inb_iff.1 hi.1) (inb_iff.1 hi.2.1) hi.2.2.1 hi.2.2.2 (Nat.pos_of_ne_zero hz)
  · cases h

def quot_ByWord.f (l0 : List Int) (a1 : Int) : Option (List Int × Int × Int) := if inb l0 = true ∧ wdb a1 = true ∧ l0.length ≤ SLIM then some (if a1 = 0 then ([], 0, 2) else (dig W (val W l0 / a1.toNat), ((val W l0 % a1.toNat : Nat) : Int), 0)) else none
end Go.Proofs.Ytcgcffnhlafneaa.Hand

/- quot.Gcd, quot.Pow by hand: a greatest divisor; a power. Conditions: words, not too many. -/
namespace Go.Proofs.Ytcgcffnhlafneaa.Hand
open Go.RowKit Go.Proofs.YtcgcffnhlafneaaW.PrintWords Go.Proofs.YtcgcffnhlafneaaW.PrintMore Go.Proofs.Ytcgcffnhlafneaa.Num
set_option linter.unusedVariables false
set_option linter.unusedSimpArgs false
attribute [local go_sem] Oper.semAt_some max2_int min2_int max_two min_two

def quot_Gcd.f (l0 l1 : List Int) : Option (List Int) := if inb l0 = true ∧ inb l1 = true ∧ l0.length ≤ PLIM ∧ l1.length ≤ PLIM then some (dig W (Nat.gcd (val W l0) (val W l1))) else none
end Go.Proofs.Ytcgcffnhlafneaa.Hand

/- quot.Pow by hand: a power. Conditions: words, not too many. -/
namespace Go.Proofs.Ytcgcffnhlafneaa.Hand
open Go.RowKit Go.Proofs.YtcgcffnhlafneaaW.PrintWords Go.Proofs.YtcgcffnhlafneaaW.PrintMore Go.Proofs.Ytcgcffnhlafneaa.Num
set_option linter.unusedVariables false
set_option linter.unusedSimpArgs false
attribute [local go_sem] Oper.semAt_some max2_int min2_int max_two min_two

/-- What Pow answers: the power, and an error's number. -/
def powV (v : Nat) (n : Int) : List Int × Int := if n < 0 then ([], 1) else if 0 < bl v ∧ 262144 / (bl v : Int) < n then ([], 4) else (dig W (v ^ n.toNat), 0)
def quot_Pow.f (l0 : List Int) (a1 : Int) : Option (List Int × Int) := if inb l0 = true ∧ l0.length ≤ PLIM then some (powV (val W l0) a1) else none
theorem pow_fitm {v n m : Nat} (h : bl v * n < 64 * m) : v ^ n < Num.W ^ m := by
  have h1 : v < 2 ^ bl v := bl_le.1 (Nat.le_refl _)
  have h2 : v ^ n ≤ (2 ^ bl v) ^ n := Nat.pow_le_pow_left (Nat.le_of_lt h1) n
  rw [← Nat.pow_mul] at h2
  refine Nat.lt_of_le_of_lt h2 ?_
  rw [W_pow]
  exact Nat.pow_lt_pow_right (by decide) h
theorem pow_fit {v n : Nat} (h : bl v * n ≤ 262144) : v ^ n < Num.W ^ 4097 := pow_fitm (m := 4097) (by omega)
theorem pow_step (x y k p : Nat) (h : y * x ^ (2 * k) = p) : y * (x * x) ^ k = p := by rw [← h, Nat.pow_mul, Nat.pow_two]
theorem pow_step1 (x y k p : Nat) (h : y * x ^ (2 * k + 1) = p) : y * x * (x * x) ^ k = p := by rw [← h, Nat.pow_succ, Nat.pow_mul, Nat.pow_two, Nat.mul_comm ((x * x) ^ k), Nat.mul_assoc]
theorem w_blm {l : List Int} {m : Nat} (h : InB Num.W l) (hn : l.length ≤ m) : bl (val Num.W l) ≤ 64 * m := bl_le.2 (by
  have h1 := val_lt Num.W_pos h
  rw [W_pow] at h1
  exact Nat.lt_of_lt_of_le h1 (Nat.pow_le_pow_right (by decide) (by omega)))
theorem w_bl {l : List Int} (h : InB Num.W l) (hn : l.length ≤ 1073741824) : bl (val Num.W l) ≤ 68719476736 := w_blm (m := 1073741824) h hn
theorem one_rd (w : World) : Rd (w.alloc (.cells #[.int .u64 1] 39)) (some ⟨w.heap.size, 0, none⟩) 1 [1] := by
  have h : Row64 (w.alloc (.cells #[.int .u64 1] 39)) w.heap.size [1] := blk_new w _
  exact h.rd rfl (by omega)
end Go.Proofs.Ytcgcffnhlafneaa.Hand
