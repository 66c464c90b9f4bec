/- Texts joined into one: each with its own sentence of what is proved, and under which conditions. -/
import Derived.Test.YtcgcffnhlafneaaHNatX
import Derived.Deep.RegionHeld3
import Derived.Deep.DrawnRows
/- prod.Half, prod.moved, prod.Mac by hand: a number's halves; a number, some words up; a number with another one times a word added. Conditions: words, not too many. -/
namespace Go.Proofs.Ytcgcffnhlafneaa.Hand
open Go.RowKit Go.Proofs.YtcgcffnhlafneaaW.PrintWords Go.Proofs.YtcgcffnhlafneaaW.PrintMore Go.Proofs.Ytcgcffnhlafneaa.Num
set_option linter.unusedVariables false
set_option linter.unusedSimpArgs false
attribute [local go_sem] Oper.semAt_some max2_int min2_int max_two min_two

/-- A slice's array from the k'th word on (c words may stand there). -/
def shift (A : Option Addr) (c k : Nat) : Option Addr := if c - k = 0 then A else A.map (·.add k)
theorem run_tail (A : Option Addr) (n c k : Nat) (hk : k ≤ n) (hc : n ≤ c) (W : World) :
    (Instr.slice 22 (.slice A n c) (some (.int .i64 (k : Int))) none none).run Try.prog W = .ok (.slice (shift A c k) (n - k) (c - k)) W := by
  have h1 : (0 : Int) ≤ (k : Int) := by omega
  have h2 : (k : Int) ≤ (n : Int) := by omega
  obtain ⟨i, hi, hi2⟩ := Option.map_eq_some_iff.1 info64
  simp only [Prod.mk.injEq] at hi2
  have e1 : ∀ (w : World) b, (Instr.sliceBound (.int .i64 (k : Int)) n b).run Try.prog w = .ok k w := fun w b => by rw [run_sliceBound _ _ _ _ _ h1 h2, Int.toNat_natCast]
  simp [Instr.slice, run_underlying Try.underlying22, Instr.sliceBounds, e1, sizeOf, typeInfo, hi, Result.andThen]
  rw [hi2.2.1]
  have e : (c - k = 0) = (c = k) := propext ⟨fun h => by omega, fun h => by omega⟩
  simp [shift, e]
theorem run_head (A : Option Addr) (n c k : Nat) (hk : k ≤ c) (W : World) :
    (Instr.slice 22 (.slice A n c) none (some (.int .i64 (k : Int))) none).run Try.prog W = .ok (.slice A k c) W := by
  have h1 : (0 : Int) ≤ (k : Int) := by omega
  have h2 : (k : Int) ≤ (c : Int) := by omega
  obtain ⟨i, hi, hi2⟩ := Option.map_eq_some_iff.1 info64
  simp only [Prod.mk.injEq] at hi2
  have ha : (if c = 0 then A else A.map (·.add 0)) = A := by
    have : ∀ a : Addr, a.add 0 = a := fun a => by unfold Addr.add; simp
    split
    · rfl
    · cases A <;> simp [this]
  have e1 : ∀ (w : World) b, (Instr.sliceBound (.int .i64 (k : Int)) c b).run Try.prog w = .ok k w := fun w b => by rw [run_sliceBound _ _ _ _ _ h1 h2, Int.toNat_natCast]
  simp [Instr.slice, run_underlying Try.underlying22, Instr.sliceBounds, e1, sizeOf, typeInfo, hi, Result.andThen]
  simpa using ha
theorem Rd.tail {w : World} {A : Option Addr} {n c : Nat} {l : List Int} (h : Rd w A n l) (hc : n ≤ c) (k : Nat) (hk : k ≤ n) : Rd w (shift A c k) (n - k) (l.drop k) := by
  refine ⟨by rw [List.length_drop, h.1], Nat.le_trans (Nat.sub_le _ _) h.2.1, fun hn => ?_⟩
  obtain ⟨ad, rfl, hcell⟩ := h.2.2 (by omega)
  refine ⟨ad.add k, by rw [shift, if_neg (by omega)]; rfl, fun j hj => ?_⟩
  rw [Addr.add_add, hcell (k + j) (by omega), List.getD_eq_getElem?_getD, List.getD_eq_getElem?_getD, List.getElem?_drop]
theorem shift_block {A : Option Addr} {c k : Nat} {ad : Addr} (h : shift A c k = some ad) : ∃ a, A = some a ∧ ad.block = a.block := by
  unfold shift at h
  split at h
  · exact ⟨ad, h, rfl⟩
  · obtain ⟨a, ha, rfl⟩ := Option.map_eq_some_iff.1 h
    exact ⟨a, ha, block_add a k⟩
theorem Vw.tail {w : World} {base base' : Nat} {ok ok' : Nat → Prop} {A : Option Addr} {n c : Nat} {l : List Int} (h : Vw w base ok (.slice A n c) l) (k : Nat) (hk : k ≤ n) (hok : ∀ j, ok j → ok' j) : Vw w base' ok' (.slice (shift A c k) (n - k) (c - k)) (l.drop k) := by
  obtain ⟨hn, hc, hf⟩ := h.of
  have hl : (l.drop k).length = n - k := by rw [List.length_drop]; omega
  refine ⟨shift A c k, c - k, by rw [hl], by omega, fun W' hW => ?_⟩
  rw [hl]
  have h1 := Rd.of_C (hf W' fun j hj hlt => hW j (hok j hj) hlt)
  exact Rd.to_C (h1.tail hc k hk)
theorem Vw.head {w : World} {base base' : Nat} {ok ok' : Nat → Prop} {A : Option Addr} {n c : Nat} {l : List Int} (h : Vw w base ok (.slice A n c) l) (k : Nat) (hk : k ≤ n) (hok : ∀ j, ok j → ok' j) : Vw w base' ok' (.slice A k c) (l.take k) := by
  obtain ⟨hn, hc, hf⟩ := h.of
  have hl : (l.take k).length = k := by rw [List.length_take]; omega
  refine ⟨A, c, by rw [hl], by omega, fun W' hW => ?_⟩
  rw [hl]
  have h1 := Rd.of_C (hf W' fun j hj hlt => hW j (hok j hj) hlt)
  exact Rd.to_C (h1.take k (by omega))
theorem Vw.drew {w : World} {base : Nat} {ok : Nat → Prop} {v : Value} {l : List Int} (h : Vw w base ok v l) : Vw w.drew base ok v l := by
  obtain ⟨A, c, rfl, hc, hf⟩ := h
  exact ⟨A, c, rfl, hc, fun W' hW => hf W' fun j hj hlt => hW j hj hlt⟩

theorem vw_older {w : World} {base base' n m : Nat} {v : Value} {l : List Int} (h : Vw w base (fun k => n ≤ k) v l) (hm : m ≤ n) : Vw w base' (fun k => m ≤ k) v l := by
  obtain ⟨A, c, rfl, hc, hf⟩ := h
  exact ⟨A, c, rfl, hc, fun W' hW => hf W' fun j hj hlt => hW j (Nat.le_trans hm hj) hlt⟩
theorem below_then {a b c : World} (h : Below a.heap.size a b) (k : Below b.heap.size b c) : Below a.heap.size a c := h.trans (k.mono h.size)
theorem Rd.later {w w' : World} {A : Option Addr} {n : Nat} {l : List Int} (h : Rd w A n l) (hb : Below w.heap.size w w') : Rd w' A n l := (h.toB.keep hb).1
/-! ### prod.Half -/
def HalfPost (P0_ : Nat → Prop) (r1 r2 : List Int) (w : World) (e : Ending) (w' : World) : Prop :=
  ∃ v1 v2 : Value, e = .returned (.tuple #[v1, v2]) ∧ Vw w' w.heap.size (fun k => P0_ k ∨ w.heap.size ≤ k) v1 r1 ∧ Vw w' w.heap.size (fun k => P0_ k ∨ w.heap.size ≤ k) v2 r2 ∧ Below w.heap.size w w'
def prod_Half.f (l0 : List Int) (a1 : Int) : Option (List Int × List Int) := if inb l0 = true then some (dig W (val W l0 / W ^ a1.toNat), dig W (val W l0 % W ^ a1.toNat)) else none
set_option maxRecDepth 100000 in
set_option maxHeartbeats 2000000 in
theorem prod_half (P0_ : Nat → Prop) (A : Option Addr) (la ca : Nat) (a : List Int) (n : Int) (w : World) (hs : Vw w w.heap.size (fun k => P0_ k) (.slice A la ca) a) (hia : InB Num.W a) :
    Calls Try.prog 62 #[.slice A la ca, .int .i64 n] w (HalfPost P0_ (dig Num.W (val Num.W a / Num.W ^ n.toNat)) (dig Num.W (val Num.W a % Num.W ^ n.toNat)) w) := by
  obtain ⟨hl, hla, hf⟩ := hs.of
  have hr : Rd w A la a := Rd.of_C (Kd.F_now hf)
  obtain ⟨N, hN⟩ : ∃ N : Nat, N = if la < n.toNat then la else n.toNat := ⟨_, rfl⟩
  have hNl : N ≤ la := by rw [hN]; split <;> omega
  have hlim := hr.2.1
  obtain ⟨M, hM⟩ : ∃ M : Nat, M = n.toNat := ⟨_, rfl⟩
  have hm0 : (if n < 0 then 0 else n) = (M : Int) := by split <;> omega
  have hmx2 : (if la < M then (la : Int) else (M : Int)) = (N : Int) := by rw [hN]; split <;> split <;> omega
  have hmx : (if (la : Int) < (M : Int) then (la : Int) else (M : Int)) = (N : Int) := by rw [hN]; split <;> split <;> omega
  have hvl := val_lt Num.W_pos hia
  rw [← hl] at hvl
  have hdv : val Num.W a / Num.W ^ n.toNat = val Num.W (a.drop N) := by
    rw [val_drop_div Num.W_pos hia N (by omega), hN]
    split
    · rename_i h
      have := Nat.pow_le_pow_right Num.W_pos (Nat.le_of_lt h)
      rw [Nat.div_eq_of_lt (by omega), Nat.div_eq_of_lt hvl]
    · rfl
  have hmd : val Num.W a % Num.W ^ n.toNat = val Num.W (a.take N) := by
    rw [val_take_mod Num.W_pos hia N (by omega), hN]
    split
    · rename_i h
      have := Nat.pow_le_pow_right Num.W_pos (Nat.le_of_lt h)
      rw [Nat.mod_eq_of_lt (by omega), Nat.mod_eq_of_lt hvl]
    · rfl
  rw [hdv, hmd]
  have ht := run_tail A la ca N hNl hla
  have hh := run_head A la ca N (Nat.le_trans hNl hla)
  have RT := Aside0.mk (hr.tail hla N hNl)
  have RH := Aside0.mk (hr.take N hNl)
  have IT := Aside0.mk (inB_drop hia N)
  have IH := Aside0.mk (inB_take hia N)
  have NT := Aside0.mk (nat_norm' _ (la - N) (ca - N) _ _ RT.out.drew (by omega) IT.out)
  have NH := Aside0.mk (nat_norm' _ N ca _ _ RH.out.drew (by omega) IH.out)
  have HS := Aside0.mk hs
  have b1 : (0 : Int) ≤ (N : Int) := by omega
  have b2 : (N : Int) ≤ (la : Int) := by omega
  have b3 : (N : Int) ≤ (ca : Int) := by omega
  clear hN hM hs hf hvl hdv hmd hr hl
  go_enter Try.func62, Try.ntmps62
  go_wp2
  go_region_with (first | ((go_at_call 41); (with_reducible refine NT.out.mono ?_); (rintro e w' ⟨j1, hk1, he1, rfl, rfl⟩)) | ((go_at_call 41); (with_reducible refine NH.out.mono ?_); (rintro e w' ⟨j2, hk2, he2, rfl, rfl⟩)))
  all_goals
    go_wp2
    refine bodyPost_ret (results_tmp2 rfl _ _ _) rfl ?_
    refine ⟨_, _, rfl, ?_, ?_, (Below.refl w.heap.size w).drew⟩
    · rw [← he1]
      exact ((HS.out.tail (base' := 0) N hNl (fun _ h => .inl h)).cut j1 (by have := RT.out.1; omega) (fun _ h => h)).drew
    · rw [← he2]
      exact ((HS.out.head (base' := 0) N hNl (fun _ h => .inl h)).cut j2 (by have := RH.out.1; omega) (fun _ h => h)).drew
theorem prod_Half.calls (P0_ : Nat → Prop) (A0 : Option Addr) (c0 : Nat) (l0 : List Int) (a1 : Int) (r1 r2 : List Int) (w : World)
    (hs0 : Kd.V (Kd.int .u64) 39 w w.heap.size (fun k_ => P0_ k_) (.slice A0 l0.length c0) l0) (h : prod_Half.f l0 a1 = some (r1, r2)) :
    Calls Try.prog 62 #[.slice A0 l0.length c0, .int .i64 a1] w fun e w' => ∃ v0_ v1_ : Value, e = .returned (.tuple #[v0_, v1_]) ∧ Kd.V (Kd.int .u64) 39 w' w.heap.size (fun k_ => (P0_ k_ ∨ w.heap.size ≤ k_)) v0_ r1 ∧ Kd.V (Kd.int .u64) 39 w' w.heap.size (fun k_ => (P0_ k_ ∨ w.heap.size ≤ k_)) v1_ r2 ∧ Below w.heap.size w w' := by
  unfold prod_Half.f at h
  split at h
  · rename_i hi
    obtain ⟨rfl, rfl⟩ := Prod.mk.injEq .. ▸ Option.some.inj h
    exact Calls.mono (prod_half P0_ A0 _ c0 l0 a1 w hs0 (inb_iff.1 hi)) fun _ _ h => h
  · cases h

/-! ### prod.moved, prod.Mac -/
set_option maxRecDepth 100000 in
theorem prod_moved (A : Option Addr) (la ca : Nat) (a : List Int) (n : Int) (w : World) (hr : Rd w A la a) (hla : la ≤ ca) (hia : InB Num.W a) (hna : la ≤ 1099511627776) (hn : n ≤ 8589934592) :
    Calls Try.prog 64 #[.slice A la ca, .int .i64 n] w (NewPost (dig Num.W (val Num.W a * Num.W ^ n.toNat)) w) := by
  obtain ⟨N, hN⟩ : ∃ N : Nat, N = n.toNat := ⟨_, rfl⟩
  have hmx : (if n < 0 then 0 else n) = (N : Int) := by split <;> omega
  have hs := fun W hr => nat_shl A la ca a (64 * (N : Int)) W hr hla hia (by omega) (by omega)
  have e : (64 * (N : Int)).toNat = 64 * N := by omega
  rw [e, ← W_pow] at hs
  rw [← hN]
  have HR := Aside0.mk hr
  have HS := Aside0.mk hs
  have hw : IntKind.i64.wrap (64 * (N : Int)) = 64 * (N : Int) := by rw [IntKind.wrap_i64]; omega
  clear hr hs hN e
  go_enter Try.func64, Try.ntmps64
  go_wp2_with ((go_at_call 29); (refine (HS.out _ HR.out).mono ?_); (rintro e w' ⟨v, rfl, hv, hb⟩); (have HV := Aside0.mk hv); (have HB := Aside0.mk hb); (clear hv hb))
  refine bodyPost_ret (results_tmp rfl _ _ _) rfl ?_
  exact ⟨v, rfl, HV.out, HB.out⟩
def MLIM : Nat := 4294967296
def prod_Mac.f (l0 l1 : List Int) (a2 a3 : Int) : Option (List Int) := if inb l0 = true ∧ inb l1 = true ∧ wd a2 = true ∧ l0.length ≤ MLIM ∧ l1.length ≤ MLIM ∧ a3 ≤ MLIM then some (dig W (val W l0 + val W l1 * a2.toNat * W ^ a3.toNat)) else none
theorem dig_len_of_lt {n k : Nat} (h : n < W ^ k) : (dig W n).length ≤ k := dig_length_le W_gt h
theorem val_lt_len {l : List Int} (h : InB W l) {k : Nat} (hk : l.length ≤ k) : val W l < W ^ k := Nat.lt_of_lt_of_le (val_lt W_pos h) (Nat.pow_le_pow_right W_pos hk)
end Go.Proofs.Ytcgcffnhlafneaa.Hand

/- prod.School by hand: the row of the product of the values; new memory alone is written. Conditions: words, not too many. -/
namespace Go.Proofs.Ytcgcffnhlafneaa.Hand
open Go.RowKit Go.Proofs.YtcgcffnhlafneaaW.PrintWords Go.Proofs.YtcgcffnhlafneaaW.PrintMore Go.Proofs.Ytcgcffnhlafneaa.Num
set_option linter.unusedVariables false
set_option linter.unusedSimpArgs false
attribute [local go_sem] Oper.semAt_some max2_int min2_int max_two min_two

/-- What has been made, i words of the one number being done, and k of the other with the next. -/
structure SchInv (a b : List Int) (i k : Nat) (row : List Int) (c : Int) : Prop where
  len : row.length = a.length + b.length
  inb : InB W row
  c0 : Wd c
  zero : ∀ j, i + b.length ≤ j → row.getD j 0 = 0
  val : val W row + W ^ (i + k) * c.toNat = val W (a.take i) * val W b + W ^ i * ((a.getD i 0).toNat * val W (b.take k))
theorem SchInv.first (a b : List Int) : SchInv a b 0 0 (List.replicate (a.length + b.length) 0) 0 :=
  ⟨by simp, inB_replicate W_pos _, by unfold Wd; omega, fun j _ => by rw [List.getD_eq_getElem?_getD, List.getElem?_replicate]; split <;> rfl, by simp [val_replicate, Num.val]⟩
def sOut (x y o c : Int) : Int := sumLo (sumLo (mulLo x y) o 0) c 0
def cOut (x y o c : Int) : Int := mulHi x y + sumHi (mulLo x y) o 0 + sumHi (sumLo (mulLo x y) o 0) c 0
theorem sch_carry {y x o c : Int} (hy : Wd y) (hx : Wd x) (ho : Wd o) (hc : Wd c) : Wd (cOut y x o c) ∧ Wd (sOut y x o c) ∧ sOut y x o c + 18446744073709551616 * cOut y x o c = y * x + o + c ∧ Wd (mulHi y x + sumHi (mulLo y x) o 0) := by
  have h1 := mul_eq y x
  have h2 := sum_eq (mulLo y x) o 0
  have h3 := sumLo_wd (mulLo y x) o 0
  have h4 := mulHi_wd hy hx
  have h5 := sumHi_le (mulLo_wd y x) ho (Int.le_refl 0) (by omega : (0 : Int) ≤ 1)
  have h7 := sum_eq (sumLo (mulLo y x) o 0) c 0
  have h8 := sumLo_wd (sumLo (mulLo y x) o 0) c 0
  have h9 := sumHi_le h3 hc (Int.le_refl 0) (by omega : (0 : Int) ≤ 1)
  have h6 : y * x ≤ 18446744073709551615 * 18446744073709551615 := by
    obtain ⟨y, rfl⟩ := Int.eq_ofNat_of_zero_le hy.1
    obtain ⟨x, rfl⟩ := Int.eq_ofNat_of_zero_le hx.1
    have := Nat.mul_le_mul (show y ≤ 18446744073709551615 by have := hy.2; omega) (show x ≤ 18446744073709551615 by have := hx.2; omega)
    exact (Int.ofNat_le.2 this : ((y * x : Nat) : Int) ≤ ((18446744073709551615 * 18446744073709551615 : Nat) : Int))
  unfold Wd sOut cOut at *
  generalize mulHi y x = p at *
  generalize mulLo y x = q at *
  generalize sumHi q o 0 = r at *
  generalize sumLo q o 0 = t at *
  generalize sumHi t c 0 = u at *
  generalize sumLo t c 0 = v at *
  generalize y * x = z at *
  omega
theorem getD_set_ne (l : List Int) (i j : Nat) (x : Int) (h : i ≠ j) : (l.set i x).getD j 0 = l.getD j 0 := by
  rw [List.getD_eq_getElem?_getD, List.getD_eq_getElem?_getD, List.getElem?_set_ne h]
theorem sch_step {p o r s c c' y x A B V V' : Nat} (hv : V + p * c = A + B) (hs : V' + p * o = V + p * s) (he : s + W * c' = y * x + o + c) : V' + p * W * c' = A + (B + p * (y * x)) := by
  have h1 : p * s + p * W * c' = p * (y * x) + p * o + p * c := by rw [Nat.mul_assoc, ← Nat.mul_add, he, Nat.mul_add, Nat.mul_add]
  generalize p * W * c' = e1 at *
  generalize p * (y * x) = e2 at *
  generalize p * s = e3 at *
  generalize p * o = e4 at *
  generalize p * c = e5 at *
  omega
theorem SchInv.snoc {a b : List Int} {i k : Nat} {row : List Int} {c : Int} (h : SchInv a b i k row c) (hia : InB W a) (hib : InB W b) (hi : i < a.length) (hk : k < b.length) :
    SchInv a b i (k + 1) (row.set (i + k) (sOut (a.getD i 0) (b.getD k 0) (row.getD (i + k) 0) c)) (cOut (a.getD i 0) (b.getD k 0) (row.getD (i + k) 0) c) := by
  have hy : Wd (a.getD i 0) := inB_getD W_pos hia i
  have hx : Wd (b.getD k 0) := inB_getD W_pos hib k
  have ho : Wd (row.getD (i + k) 0) := inB_getD W_pos h.inb (i + k)
  obtain ⟨hw, hw2, he, _⟩ := sch_carry hy hx ho h.c0
  refine ⟨by simp [h.len], inB_set h.inb _ (wd_inb hw2), hw, fun j hj => by rw [getD_set_ne _ _ _ _ (by omega)]; exact h.zero j hj, ?_⟩
  have hs := val_set W row (i + k) (sOut (a.getD i 0) (b.getD k 0) (row.getD (i + k) 0) c) (by rw [h.len]; omega)
  have hv := h.val
  have hc := h.c0
  have ht := val_take_succ W b k
  generalize sOut (a.getD i 0) (b.getD k 0) (row.getD (i + k) 0) c = s at *
  generalize cOut (a.getD i 0) (b.getD k 0) (row.getD (i + k) 0) c = c' at *
  generalize row.getD (i + k) 0 = o at *
  generalize a.getD i 0 = y at *
  generalize b.getD k 0 = x at *
  obtain ⟨s, rfl⟩ := Int.eq_ofNat_of_zero_le hw2.1
  obtain ⟨c', rfl⟩ := Int.eq_ofNat_of_zero_le hw.1
  obtain ⟨o, rfl⟩ := Int.eq_ofNat_of_zero_le ho.1
  obtain ⟨x, rfl⟩ := Int.eq_ofNat_of_zero_le hx.1
  obtain ⟨y, rfl⟩ := Int.eq_ofNat_of_zero_le hy.1
  obtain ⟨c, rfl⟩ := Int.eq_ofNat_of_zero_le hc.1
  simp only [Int.toNat_natCast] at *
  have he' : s + W * c' = y * x + o + c := Int.ofNat_inj.1 (show ((s + W * c' : Nat) : Int) = ((y * x + o + c : Nat) : Int) from he)
  have h1 := sch_step (r := 0) hv hs he'
  rw [show i + (k + 1) = i + k + 1 by omega, Nat.pow_succ, h1, ht]
  congr 1
  rw [Nat.pow_add, Nat.mul_add, Nat.mul_add]
  congr 1
  rw [Nat.mul_assoc]
  congr 1
  rw [← Nat.mul_assoc, ← Nat.mul_assoc, Nat.mul_comm y (W ^ k)]
theorem SchInv.next {a b : List Int} {i : Nat} {row : List Int} {c : Int} (h : SchInv a b i b.length row c) (hi : i < a.length) :
    SchInv a b (i + 1) 0 (row.set (i + b.length) c) 0 := by
  have hs := val_set W row (i + b.length) c (by rw [h.len]; omega)
  have hv := h.val
  rw [h.zero _ (Nat.le_refl _)] at hs
  refine ⟨by simp [h.len], inB_set h.inb _ (wd_inb h.c0), by unfold Wd; omega, fun j hj => by rw [getD_set_ne _ _ _ _ (by omega)]; exact h.zero j (by omega), ?_⟩
  rw [List.take_length] at hv
  rw [List.take_zero, show (0 : Int).toNat = 0 from rfl, Nat.mul_zero, Nat.add_zero, val_take_succ]
  rw [show Int.toNat 0 = 0 from rfl, Nat.mul_zero, Nat.add_zero] at hs
  rw [hs, hv, Nat.add_mul]
  simp [Num.val, Nat.mul_assoc]
theorem SchInv.done {a b : List Int} {row : List Int} {c : Int} (h : SchInv a b a.length 0 row c) (hc : c = 0) : Num.val W row = Num.val W a * Num.val W b := by
  have hv := h.val
  subst hc
  rw [List.take_length, List.take_zero] at hv
  simpa [Num.val] using hv
set_option maxRecDepth 100000 in
set_option maxHeartbeats 4000000 in
theorem prod_school (A B : Option Addr) (la lb ca cb : Nat) (a b : List Int) (w : World) (ha : Rd w A la a) (hb : Rd w B lb b) (hia : InB Num.W a) (hib : InB Num.W b) (hna : la ≤ 4294967296) (hnb : lb ≤ 4294967296) :
    Calls Try.prog 60 #[.slice A la ca, .slice B lb cb] w (NewPost (dig Num.W (val Num.W a * val Num.W b)) w) := by
  have hmk := fun W => run_make_len (la + lb) (by omega) W
  have hmk' : ∀ W : World, (Instr.makeSlice 22 (.int .i64 ((la : Int) + (lb : Int))) (.int .i64 ((la : Int) + (lb : Int)))).run Try.prog W = .ok (.slice (some ⟨W.heap.size, 0, none⟩) (la + lb) (la + lb)) (W.alloc (.cells (madeCells #[.int .u64 0] (la + lb)) 39)) := hmk
  have hal : a.length = la := ha.1
  have hbl : b.length = lb := hb.1
  have hb0 : Below w.heap.size w (w.alloc (.cells (madeCells #[.int .u64 0] (la + lb)) 39)) := below_alloc (Below.refl _ _) _
  have hr0 : Row64 (w.alloc (.cells (madeCells #[.int .u64 0] (la + lb)) 39)) w.heap.size (List.replicate (a.length + b.length) 0) := by rw [hal, hbl]; exact Row64.made _
  have HA := Aside0.mk ha
  have HB := Aside0.mk hb
  have HB0 := Aside0.mk hb0
  have HR0 := Aside0.mk hr0
  have HAL := Aside0.mk hal
  have HBL := Aside0.mk hbl
  clear ha hb hb0 hr0 hal hbl hmk
  go_enter Try.func60, Try.ntmps60
  go_wp2
  go_loopw [22] (fun iv wr => ∃ (i : Nat) (row : List Int), i ≤ la ∧ iv = .int .i64 i ∧ Aside0 (Row64 wr w.heap.size row) ∧ Aside0 (SchInv a b i 0 row 0) ∧ Aside0 (Below w.heap.size w wr)) (fun iv _ => la - (intOf iv).toNat)
  case atStart => exact ⟨0, _, by omega, rfl, HR0, ⟨SchInv.first a b⟩, HB0⟩
  case round =>
    obtain ⟨i, row, hi, rfl, HR, HI, HW⟩ := hrel
    by_cases hlt : i < la
    · obtain ⟨ad, rfl, hcA⟩ := HA.out.2.2 (by omega)
      go_wp2
      go_loopw [7, 27] (fun cv kv wi => ∃ (k : Nat) (row : List Int) (c : Int), k ≤ lb ∧ kv = .int .i64 k ∧ cv = .int .u64 c ∧ Aside0 (Row64 wi w.heap.size row) ∧ Aside0 (SchInv a b i k row c) ∧ Aside0 (Below w.heap.size w wi)) (fun _ kv _ => lb - (intOf kv).toNat)
      case atStart => exact ⟨0, row, 0, by omega, rfl, rfl, HR, HI, HW⟩
      case round =>
        clear HR HI HW row hcA
        obtain ⟨k, row, c, hk, rfl, rfl, HR, HI, HW⟩ := hrel
        have hlen : row.length = la + lb := by rw [HI.out.len, HAL.out, HBL.out]
        by_cases hlk : k < lb
        · obtain ⟨bd, rfl, hcB⟩ := (HB.out.later (w' := wr.drew) HW.out.drew).2.2 (by omega)
          have qb := hcB k hlk
          obtain ⟨ad', e, hcA⟩ := (HA.out.later (w' := wr.drew) HW.out.drew).2.2 (by omega)
          cases e
          have qa := hcA i hlt
          have fr : wr.drew.frozen? ⟨w.heap.size, i + k, none⟩ = false := blk_frozen (w := wr) HR.out (i + k)
          have qr : wr.drew.cell? ⟨w.heap.size, i + k, none⟩ = some (.int .u64 (row.getD (i + k) 0)) := (blk_cell (w := wr) HR.out (i + k)).trans (nums_at row (i + k) (by omega))
          have hnx := HI.out.snoc hia hib (by rw [HAL.out]; exact hlt) (by rw [HBL.out]; exact hlk)
          have hst := (HR.out.set (i + k) (sOut (a.getD i 0) (b.getD k 0) (row.getD (i + k) 0) c))
          have hx : Wd (a.getD i 0) := inB_getD Num.W_pos hia i
          have hy : Wd (b.getD k 0) := inB_getD Num.W_pos hib k
          have ho : Wd (row.getD (i + k) 0) := inB_getD Num.W_pos HI.out.inb (i + k)
          have hc := HI.out.c0
          have HNX := Aside0.mk hnx
          have HST := Aside0.mk hst
          generalize a.getD i 0 = x at *
          generalize b.getD k 0 = y at *
          generalize row.getD (i + k) 0 = o at *
          have hm1 := mulLo_wd x y
          have hm2 := sumLo_wd (mulLo x y) o 0
          have hcar := sch_carry hx hy ho hc
          have z1 := hcar.1
          have z2 := hcar.2.2.2
          unfold Wd cOut at z1
          unfold Wd at z2
          have z3 := z1.1
          have z4 := z1.2
          have z5 := z2.1
          have z6 := z2.2
          have q0 : (0 : Int) ≤ 0 := Int.le_refl _
          have q1 : (0 : Int) ≤ 1 := by decide
          have hik : IntKind.i64.wrap ((i : Int) + (k : Int)) = (i : Int) + (k : Int) := by rw [IntKind.wrap_i64]; omega
          clear hcA hcB hnx hst z1 z2 hcar hlen
          go_wp2
          go_region_held3 (fun w' => w'.cell? (ad.add i) = some (.int .u64 x) ∧ w'.cell? (bd.add k) = some (.int .u64 y)) (go_keep) (((go_at_call 68); (with_reducible refine (word_mul _ _ hx hy _).mono ?_); (rintro e w' ⟨rfl, rfl⟩)))
          go_wp2_with (first | ((go_at_call 47); (with_reducible refine (word_add _ _ _ hm1 ho q0 q1 _).mono ?_); (rintro e w' ⟨rfl, rfl⟩)) | ((go_at_call 47); (with_reducible refine (word_add _ _ _ hm2 hc q0 q1 _).mono ?_); (rintro e w' ⟨rfl, rfl⟩)))
          exact ⟨⟨k + 1, _, _, by omega, by go_num, rfl, HST, HNX, ⟨(HW.out.setCell (p := ⟨w.heap.size, i + k, none⟩) (Nat.le_refl _) _).drew⟩⟩, by simp [intOf]; omega⟩
        · obtain rfl : k = lb := by omega
          have fr : wr.frozen? ⟨w.heap.size, i + k, none⟩ = false := blk_frozen (w := wr) HR.out (i + k)
          have hnx := HI.out
          rw [← HBL.out] at hnx
          have hnx := hnx.next (by rw [HAL.out]; exact hlt)
          have qr : wr.cell? ⟨w.heap.size, i + k, none⟩ = some (.int .u64 (row.getD (i + k) 0)) := (blk_cell (w := wr) HR.out (i + k)).trans (nums_at row (i + k) (by omega))
          have hst := HR.out.set (i + k) c
          rw [HBL.out] at hnx
          have HNX := Aside0.mk hnx
          have HST := Aside0.mk hst
          have hik : IntKind.i64.wrap ((i : Int) + (k : Int)) = (i : Int) + (k : Int) := by rw [IntKind.wrap_i64]; omega
          clear hnx hst hlen
          go_wp2
          exact ⟨⟨i + 1, _, by omega, by go_num, HST, HNX, ⟨HW.out.setCell (p := ⟨w.heap.size, i + k, none⟩) (Nat.le_refl _) _⟩⟩, by simp [intOf]; omega⟩
    · obtain rfl : i = la := by omega
      have hdn := HI.out
      rw [← HAL.out] at hdn
      have hv := hdn.done rfl
      have hrd := HR.out.rd (n := i + lb) (by rw [HI.out.len, HAL.out, HBL.out]) (by omega)
      have HRD := Aside0.mk hrd
      have HV := Aside0.mk hv
      have HIB := Aside0.mk HI.out.inb
      clear hdn hv hrd
      go_wp2_with ((go_at_call 41); (with_reducible refine (nat_norm' _ (i + lb) (i + lb) row _ HRD.out (Nat.le_refl _) HIB.out).mono ?_); (rintro e w' ⟨j, hk1, hk2, rfl, rfl⟩))
      refine bodyPost_ret (results_tmp rfl _ _ _) rfl ?_
      rw [HV.out] at hk2
      refine ⟨_, rfl, Vw.of_Rd (n := j) ?_ (Nat.le_refl _) (fun ad e _ => by cases e; exact Nat.le_refl _), HW.out⟩
      rw [← hk2]
      exact HRD.out.take j (by have := HRD.out.1; omega)
def PLIM : Nat := 1073741824
def prod_School.f (l0 l1 : List Int) : Option (List Int) := if inb l0 = true ∧ inb l1 = true ∧ l0.length ≤ PLIM ∧ l1.length ≤ PLIM then some (dig W (val W l0 * val W l1)) else none
theorem prod_School.calls (A0 : Option Addr) (c0 : Nat) (l0 : List Int) (A1 : Option Addr) (c1 : Nat) (l1 : List Int) (r : List Int) (w : World)
    (hr0 : Kd.C (Kd.int .u64) w A0 l0.length l0) (_hc0 : l0.length ≤ c0) (hr1 : Kd.C (Kd.int .u64) w A1 l1.length l1) (_hc1 : l1.length ≤ c1) (h : prod_School.f l0 l1 = some r) :
    Calls Try.prog 60 #[.slice A0 l0.length c0, .slice A1 l1.length c1] w fun e w' => ∃ v0_ : Value, e = .returned (v0_) ∧ Kd.V (Kd.int .u64) 39 w' w.heap.size (fun k_ => (w.heap.size ≤ k_)) v0_ r ∧ Below w.heap.size w w' := by
  unfold prod_School.f at h
  split at h
  · rename_i hi
    cases h
    have hp : PLIM ≤ 4294967296 := by decide
    exact calls_of_new (prod_school A0 A1 _ _ c0 c1 l0 l1 w (Rd.of_C hr0) (Rd.of_C hr1) (inb_iff.1 hi.1) (inb_iff.1 hi.2.1) (Nat.le_trans hi.2.2.1 hp) (Nat.le_trans hi.2.2.2 hp))
  · cases h
end Go.Proofs.Ytcgcffnhlafneaa.Hand

/- prod.sum by hand: the row of the sum of the values; new memory alone is written. Conditions: words, not too many. -/
namespace Go.Proofs.Ytcgcffnhlafneaa.Hand
open Go.RowKit Go.Proofs.YtcgcffnhlafneaaW.PrintWords Go.Proofs.YtcgcffnhlafneaaW.PrintMore Go.Proofs.Ytcgcffnhlafneaa.Num
set_option linter.unusedVariables false
set_option linter.unusedSimpArgs false
attribute [local go_sem] Oper.semAt_some max2_int min2_int max_two min_two

/-- A number that is given to sum: where it lies, and its words. -/
structure Part where
  A : Option Addr
  c : Nat
  l : List Int
def Part.v (p : Part) : Value := .slice p.A p.l.length p.c
structure Part.Ok (p : Part) (w : World) : Prop where
  rd : Rd w p.A p.l.length p.l
  cap : p.l.length ≤ p.c
  inb : InB W p.l
  lim : p.l.length ≤ 17592186044400
def total : List Part → Nat
  | [] => 0
  | p :: ps => val W p.l + total ps
theorem total_snoc (ps : List Part) (p : Part) : total (ps ++ [p]) = total ps + val W p.l := by
  induction ps with
  | nil => simp [total]
  | cons q ps ih => simp only [List.cons_append, total, ih]; omega
theorem total_take_le (ps : List Part) (k : Nat) : total (ps.take k) ≤ total ps := by
  induction ps generalizing k with
  | nil => simp
  | cons q ps ih =>
    cases k with
    | zero => simp [total]
    | succ k => simp only [List.take_succ_cons, total]; have := ih k; omega
theorem cell_later {w w' : World} {p : Addr} {v : Value} (h : w.cell? p = some v) (hb : Below w.heap.size w w') : w'.cell? p = some v := by
  rw [hb.cell (p := p) (World.block_lt_of_cell? w _ h)]
  exact h
set_option maxRecDepth 100000 in
set_option maxHeartbeats 2000000 in
theorem prod_sum (ad : Addr) (ps : List Part) (m c : Nat) (w : World) (hm : ps.length = m) (hm2 : m ≤ 1000000) (hc : ∀ j (h : j < ps.length), w.cell? (ad.add j) = some (ps[j]).v) (hok : ∀ p, p ∈ ps → p.Ok w) (L : Nat) (hL : L ≤ 17592186044400) (ht : total ps < Num.W ^ L) :
    Calls Try.prog 63 #[.slice (some ad) m c] w (NewPost (dig Num.W (total ps)) w) := by
  have HC := Aside0.mk hc
  have HO := Aside0.mk hok
  have HT := Aside0.mk ht
  have HM := Aside0.mk hm
  clear hc hok ht hm
  go_enter Try.func63, Try.ntmps63
  go_wp2
  go_loopw [3, 8] (fun ov iv wr => ∃ (k : Nat) (A : Option Addr) (n c : Nat), k ≤ m ∧ iv = .int .i64 k ∧ ov = .slice A n c ∧ n = (dig Num.W (total (ps.take k))).length ∧ Aside0 (Vw wr w.heap.size (fun j => w.heap.size ≤ j) (.slice A n c) (dig Num.W (total (ps.take k)))) ∧ Aside0 (Below w.heap.size w wr)) (fun _ iv _ => m - (intOf iv).toNat)
  case atStart => exact ⟨0, none, 0, 0, by omega, rfl, rfl, by rw [List.take_zero, total, dig_zero]; rfl, ⟨by rw [List.take_zero, total, dig_zero]; exact Vw.nil _ _ _⟩, ⟨Below.refl _ _⟩⟩
  case round =>
    obtain ⟨k, A, n, cc, hk, rfl, rfl, hn, HV, HB⟩ := hrel
    have HN := Aside0.mk hn
    by_cases hlt : k < m
    · have hkl : k < ps.length := by rw [HM.out]; exact hlt
      have hck := cell_later (HC.out k hkl) HB.out
      have hpo := HO.out ps[k] (List.getElem_mem hkl)
      have hts : ps.take (k + 1) = ps.take k ++ [ps[k]] := by rw [List.take_add_one, List.getElem?_eq_getElem hkl]; rfl
      have htt : total (ps.take (k + 1)) = total (ps.take k) + val Num.W (ps[k]).l := by rw [hts, total_snoc]
      have hnl : n ≤ 17592186044400 := by rw [HN.out]; exact Nat.le_trans (dig_len_of_lt (Nat.lt_of_le_of_lt (total_take_le ps k) HT.out)) hL
      obtain ⟨hnn, hcc, hfv⟩ := HV.out.of
      have hrv : Rd wr A n (dig Num.W (total (ps.take k))) := by
        have := Kd.F_now hfv
        exact Rd.of_C this
      have had := nat_add A (ps[k]).A n (ps[k]).l.length cc (ps[k]).c _ _ wr hrv (hpo.rd.later HB.out) (dig_inB Num.W_gt _) hpo.inb hnl hpo.lim
      rw [val_dig Num.W_gt, ← htt] at had
      have HAD := Aside0.mk had
      unfold Part.v at hck
      generalize (ps[k]).A = pA at *
      generalize (ps[k]).c = pc at *
      generalize (ps[k]).l.length = pn at *
      clear had hts htt hrv hfv hpo hn hnn hnl hcc hkl
      go_wp2_with ((go_at_call 27); (with_reducible refine HAD.out.mono ?_); (rintro e w1 ⟨v, rfl, hv, hb1⟩); (obtain ⟨A1, c1, rfl, hc1, hr1⟩ := hv.reads); (have HV1 := Aside0.mk hv); (have HB1 := Aside0.mk hb1); (clear hv hb1 hr1 hc1))
      refine ⟨⟨k + 1, _, _, _, by omega, by go_num, rfl, rfl, ⟨vw_older HV1.out HB.out.size⟩, ⟨below_then HB.out HB1.out⟩⟩, by simp [intOf]; omega⟩
    · obtain rfl : k = m := by omega
      have hV := HV.out
      rw [← HM.out, List.take_length] at hV
      have HV1 := Aside0.mk hV
      clear hV hn
      go_wp2
      refine bodyPost_ret (results_tmp rfl _ _ _) rfl ?_
      exact ⟨_, rfl, HV1.out, HB.out⟩
theorem sum_two (A1 A2 : Option Addr) (c1 c2 x y b K : Nat) (t : TypeId) (w : World) (hb : w.heap[b]? = some (.cells #[.slice A1 (dig Num.W x).length c1, .slice A2 (dig Num.W y).length c2] t (0, 0)))
    (r1 : Rd w A1 (dig Num.W x).length (dig Num.W x)) (h1 : (dig Num.W x).length ≤ c1) (r2 : Rd w A2 (dig Num.W y).length (dig Num.W y)) (h2 : (dig Num.W y).length ≤ c2) (hx : x < Num.W ^ K) (hy : y < Num.W ^ K) (hK : K ≤ 1099511627776) :
    Calls Try.prog 63 #[.slice (some ⟨b, 0, none⟩) 2 2] w (NewPost (dig Num.W (x + y)) w) := by
  have lx := dig_len_of_lt hx
  have ly := dig_len_of_lt hy
  have hp := Nat.pow_pos (n := K) Num.W_pos
  have h := prod_sum ⟨b, 0, none⟩ [⟨A1, c1, dig Num.W x⟩, ⟨A2, c2, dig Num.W y⟩] 2 2 w rfl (by decide) (fun j hj => by
    rw [Addr.add_lit, blk_cell hb]
    match j, hj with
    | 0, _ => rfl
    | 1, _ => rfl) (fun p hp => by
    rcases List.mem_cons.1 hp with rfl | hp
    · exact ⟨r1, h1, dig_inB Num.W_gt _, show (dig Num.W x).length ≤ _ by omega⟩
    · rcases List.mem_cons.1 hp with rfl | hp
      · exact ⟨r2, h2, dig_inB Num.W_gt _, show (dig Num.W y).length ≤ _ by omega⟩
      · cases hp) (K + 1) (by omega) (by
    have h3 : 2 * Num.W ^ K ≤ Num.W ^ K * Num.W := by rw [Nat.mul_comm]; exact Nat.mul_le_mul_left _ (by decide)
    simp only [total, val_dig Num.W_gt, Nat.pow_succ]
    omega)
  simpa only [total, val_dig Num.W_gt, Nat.add_zero] using h
theorem sum_three (A1 A2 A3 : Option Addr) (c1 c2 c3 x y z b K : Nat) (t : TypeId) (w : World) (hb : w.heap[b]? = some (.cells #[.slice A1 (dig Num.W x).length c1, .slice A2 (dig Num.W y).length c2, .slice A3 (dig Num.W z).length c3] t (0, 0)))
    (r1 : Rd w A1 (dig Num.W x).length (dig Num.W x)) (h1 : (dig Num.W x).length ≤ c1) (r2 : Rd w A2 (dig Num.W y).length (dig Num.W y)) (h2 : (dig Num.W y).length ≤ c2) (r3 : Rd w A3 (dig Num.W z).length (dig Num.W z)) (h3 : (dig Num.W z).length ≤ c3)
    (hx : x < Num.W ^ K) (hy : y < Num.W ^ K) (hz : z < Num.W ^ K) (hK : K ≤ 1099511627776) :
    Calls Try.prog 63 #[.slice (some ⟨b, 0, none⟩) 3 3] w (NewPost (dig Num.W (x + (y + z))) w) := by
  have lx := dig_len_of_lt hx
  have ly := dig_len_of_lt hy
  have lz := dig_len_of_lt hz
  have hp := Nat.pow_pos (n := K) Num.W_pos
  have h := prod_sum ⟨b, 0, none⟩ [⟨A1, c1, dig Num.W x⟩, ⟨A2, c2, dig Num.W y⟩, ⟨A3, c3, dig Num.W z⟩] 3 3 w rfl (by decide) (fun j hj => by
    rw [Addr.add_lit, blk_cell hb]
    match j, hj with
    | 0, _ => rfl
    | 1, _ => rfl
    | 2, _ => rfl) (fun p hp => by
    rcases List.mem_cons.1 hp with rfl | hp
    · exact ⟨r1, h1, dig_inB Num.W_gt _, show (dig Num.W x).length ≤ _ by omega⟩
    · rcases List.mem_cons.1 hp with rfl | hp
      · exact ⟨r2, h2, dig_inB Num.W_gt _, show (dig Num.W y).length ≤ _ by omega⟩
      · rcases List.mem_cons.1 hp with rfl | hp
        · exact ⟨r3, h3, dig_inB Num.W_gt _, show (dig Num.W z).length ≤ _ by omega⟩
        · cases hp) (K + 1) (by omega) (by
    have h3 : 3 * Num.W ^ K ≤ Num.W ^ K * Num.W := by rw [Nat.mul_comm]; exact Nat.mul_le_mul_left _ (by decide)
    simp only [total, val_dig Num.W_gt, Nat.pow_succ]
    omega)
  simpa only [total, val_dig Num.W_gt, Nat.add_zero] using h
/-- A difference of rows of numbers. -/
theorem sub_dig (A1 A2 : Option Addr) (c1 c2 x y K : Nat) (w : World) (r1 : Rd w A1 (dig Num.W x).length (dig Num.W x)) (r2 : Rd w A2 (dig Num.W y).length (dig Num.W y)) (hx : x < Num.W ^ K) (hy : y < Num.W ^ K) (hK : K ≤ 1099511627776) (hxy : y ≤ x) :
    Calls Try.prog 34 #[.slice A1 (dig Num.W x).length c1, .slice A2 (dig Num.W y).length c2] w fun e w' =>
      (∃ v : Value, e = .returned (.tuple #[v, .int .i64 0]) ∧ Vw w' w.heap.size (fun k => w.heap.size ≤ k) v (dig Num.W (x - y))) ∧ Below w.heap.size w w' := by
  have lx := dig_len_of_lt hx
  have ly := dig_len_of_lt hy
  have h := nat_sub A1 A2 _ _ c1 c2 _ _ w r1 r2 (dig_inB Num.W_gt _) (dig_inB Num.W_gt _) (by omega) (by omega)
  rw [val_dig Num.W_gt, val_dig Num.W_gt] at h
  refine h.mono ?_
  rintro e w' ⟨⟨v, rfl, hv⟩, hb⟩
  rw [if_neg (by omega)] at hv
  rw [if_neg (by omega)]
  exact ⟨⟨v, rfl, hv⟩, hb⟩
theorem blk_new' {w : World} {o : Obj} {n : Nat} (h : n = w.heap.size) : (w.alloc o).heap[n]? = some o := by subst h; exact blk_new _ _
/-- A number's halves, and their sum, are shorter than the number. -/
theorem half_lt {a M n : Nat} (ha : a < W ^ M) (hM : 4 ≤ M) (hn : n = (M + 1) / 2) : a / W ^ n < W ^ (M - 1) ∧ a % W ^ n < W ^ (M - 1) ∧ a / W ^ n + a % W ^ n < W ^ (M - 1) := by
  have hp := Nat.pow_pos (n := n) W_pos
  have h1 : a / W ^ n < W ^ n := by
    have h2 : a / W ^ n < W ^ (M - n) := Nat.div_lt_of_lt_mul (by rw [← Nat.pow_add, show n + (M - n) = M by omega]; exact ha)
    exact Nat.lt_of_lt_of_le h2 (Nat.pow_le_pow_right W_pos (by omega))
  have h2 := Nat.mod_lt a hp
  have h3 : W ^ (n + 1) ≤ W ^ (M - 1) := Nat.pow_le_pow_right W_pos (by omega)
  rw [Nat.pow_succ] at h3
  have h4 : 2 * W ^ n ≤ W ^ n * W := by rw [Nat.mul_comm]; exact Nat.mul_le_mul_left _ (by decide)
  omega
/-- Karatsuba's sum. -/
theorem kara_sum (ah al bh bl P : Nat) : ah * bh * (P * P) + (((ah + al) * (bh + bl) - (ah * bh + al * bl)) * P + al * bl) = (al + P * ah) * (bl + P * bh) ∧ ah * bh + al * bl ≤ (ah + al) * (bh + bl) := by
  have e : (ah + al) * (bh + bl) = ah * bh + al * bl + (ah * bl + al * bh) := by rw [Nat.add_mul, Nat.mul_add, Nat.mul_add]; omega
  refine ⟨?_, by rw [e]; omega⟩
  have e0 : (al + P * ah) * (bl + P * bh) = al * bl + al * (P * bh) + (P * ah * bl + P * ah * (P * bh)) := by rw [Nat.add_mul, Nat.mul_add, Nat.mul_add]
  rw [e, Nat.add_sub_cancel_left, e0]
  have e1 : P * ah * bl = ah * bl * P := by rw [Nat.mul_assoc, Nat.mul_comm]
  have e2 : al * (P * bh) = al * bh * P := by rw [Nat.mul_comm P, Nat.mul_assoc]
  have e3 : P * ah * (P * bh) = ah * bh * (P * P) := by rw [Nat.mul_mul_mul_comm, Nat.mul_comm]
  rw [e1, e2, e3, Nat.add_mul]
  omega
end Go.Proofs.Ytcgcffnhlafneaa.Hand

/- prod.Kara, prod.Square by hand: the row of the product of the values; new memory alone is written. Conditions: words, not too many. -/
namespace Go.Proofs.Ytcgcffnhlafneaa.Hand
open Go.RowKit Go.Proofs.YtcgcffnhlafneaaW.PrintWords Go.Proofs.YtcgcffnhlafneaaW.PrintMore Go.Proofs.Ytcgcffnhlafneaa.Num
set_option linter.unusedVariables false
set_option linter.unusedSimpArgs false
attribute [local go_sem] Oper.semAt_some max2_int min2_int max_two min_two
attribute [local go_sem ↓] Go.wp_at_zero Go.wp_at_succ

theorem run_store_fn (P : Program) (w : World) (a : Addr) (fn : Fn) (x y : Array Value) (m : Mode) : (store a (.func fn x y) m).run P w = stored P w a (.func fn x y) m := run_store P w a _ m rfl
attribute [local go_sem] run_store_fn

theorem below_then' {a b c : World} (k : Below b.heap.size b c) (h : Below a.heap.size a b) : Below a.heap.size a c := below_then h k
theorem blk_below' {w w1 : World} {g : Nat} {o : Obj} (hb : Below w.heap.size w w1) (h : w.heap[g]? = some o) : w1.heap[g]? = some o := blk_below h hb
/-- What Kara answers, for numbers of k words at most. -/
def KaraTells (least : Int) (k : Nat) : Prop := ∀ (A B : Option Addr) (la lb ca cb : Nat) (a b : List Int) (w : World), Rd w A la a → Rd w B lb b → la ≤ ca → lb ≤ cb → InB Num.W a → InB Num.W b → la ≤ 1073741824 → lb ≤ 1073741824 →
  (dig Num.W (val Num.W a)).length ≤ k → (dig Num.W (val Num.W b)).length ≤ k →
  Calls Try.prog 52 #[.slice A la ca, .slice B lb cb, .int .i64 least] w (NewPost (dig Num.W (val Num.W a * val Num.W b)) w)
set_option maxRecDepth 100000 in
theorem kara1 {least : Int} {k LB : Nat} (hk : KaraTells least k) (A B : Option Addr) (la lb ca cb : Nat) (a b : List Int) (w : World) (ha : Rd w A la a) (hb : Rd w B lb b) (hca : la ≤ ca) (hcb : lb ≤ cb) (hia : InB Num.W a) (hib : InB Num.W b) (hla : la ≤ 1073741824) (hlb : lb ≤ 1073741824)
    (hda : (dig Num.W (val Num.W a)).length ≤ k) (hdb : (dig Num.W (val Num.W b)).length ≤ k) (hc : w.cell? ⟨LB, 0, none⟩ = some (.int .i64 least)) :
    Calls Try.prog 61 #[.slice A la ca, .slice B lb cb, .pointer (some ⟨LB, 0, none⟩)] w (NewPost (dig Num.W (val Num.W a * val Num.W b)) w) := by
  have HK := Aside0.mk (hk A B la lb ca cb a b w ha hb hca hcb hia hib hla hlb hda hdb)
  clear ha hb hca hcb hia hib hla hlb hda hdb
  go_enter Try.func61, Try.ntmps61
  go_wp2_with ((go_at_call 52); (with_reducible refine HK.out.mono ?_); (rintro e w1 ⟨v, rfl, hv, hb1⟩); (have HV1 := Aside0.mk hv); (have HB1 := Aside0.mk hb1); (clear hv hb1))
  refine bodyPost_ret (results_tmp rfl _ _ _) rfl ?_
  exact ⟨v, rfl, HV1.out, HB1.out⟩
set_option maxHeartbeats 16000000 in
set_option maxRecDepth 100000 in
theorem kara_step (least : Int) (k : Nat) (ih : ∀ j, j < k → KaraTells least j) : KaraTells least k := by
  intro A B la lb ca cb a b w ha hb hca hcb hia hib hla hlb hda hdb
  obtain ⟨a0, ha0⟩ : ∃ a0, a0 = val Num.W a := ⟨_, rfl⟩
  obtain ⟨b0, hb0⟩ : ∃ b0, b0 = val Num.W b := ⟨_, rfl⟩
  rw [← ha0] at hda
  rw [← hb0] at hdb
  rw [← ha0, ← hb0]
  have hna : ∀ W, Rd W A la a → Calls Try.prog 41 #[.slice A la ca] W fun e w' => e = .returned (.slice A (dig Num.W a0).length (dig Num.W a0).length) ∧ W = w' := fun W hr => by rw [ha0]; exact nat_norm_at A la ca a W hr hca hia
  have hnb : ∀ W, Rd W B lb b → Calls Try.prog 41 #[.slice B lb cb] W fun e w' => e = .returned (.slice B (dig Num.W b0).length (dig Num.W b0).length) ∧ W = w' := fun W hr => by rw [hb0]; exact nat_norm_at B lb cb b W hr hcb hib
  have hal : a.length = la := ha.1
  have hbl : b.length = lb := hb.1
  have ra : ∀ W, Rd W A la a → Rd W A (dig Num.W a0).length (dig Num.W a0) := fun W hr => by
    have := norm_facts hia
    rw [← ha0] at this
    have h := hr.take (dig Num.W a0).length (by omega)
    rwa [this.2] at h
  have rb : ∀ W, Rd W B lb b → Rd W B (dig Num.W b0).length (dig Num.W b0) := fun W hr => by
    have := norm_facts hib
    rw [← hb0] at this
    have h := hr.take (dig Num.W b0).length (by omega)
    rwa [this.2] at h
  have hla2 : (dig Num.W a0).length ≤ 1073741824 := by have := norm_facts hia; rw [← ha0] at this; omega
  have hlb2 : (dig Num.W b0).length ≤ 1073741824 := by have := norm_facts hib; rw [← hb0] at this; omega
  have hva : a0 < Num.W ^ (dig Num.W a0).length := by have := val_lt Num.W_pos (dig_inB Num.W_gt a0); rwa [val_dig Num.W_gt] at this
  have hvb : b0 < Num.W ^ (dig Num.W b0).length := by have := val_lt Num.W_pos (dig_inB Num.W_gt b0); rwa [val_dig Num.W_gt] at this
  generalize hp : (dig Num.W a0).length = p at *
  generalize hq : (dig Num.W b0).length = q at *
  have HA := Aside0.mk ha
  have HB := Aside0.mk hb
  have HNA := Aside0.mk hna
  have HNB := Aside0.mk hnb
  have RA := Aside0.mk ra
  have RB := Aside0.mk rb
  have HP := Aside0.mk hp
  have HQ := Aside0.mk hq
  have HVA := Aside0.mk hva
  have HVB := Aside0.mk hvb
  have hbx : Below w.heap.size w (w.alloc (.cells #[.int .i64 least] 3)) := below_alloc (Below.refl _ _) _
  have HBX := Aside0.mk hbx
  have qx : (w.alloc (.cells #[.int .i64 least] 3)).cell? ⟨w.heap.size, 0, none⟩ = some (.int .i64 least) := blk_cell (blk_new _ _) 0
  clear ha hb hna hnb ra rb hal hbl hp hq ha0 hb0 hia hib hbx hva hvb
  have hmn : (if q < p then (q : Int) else (p : Int)) = ((min p q : Nat) : Int) := by split <;> omega
  have hmn2 : (if (q : Int) < (p : Int) then (q : Int) else (p : Int)) = ((min p q : Nat) : Int) := by split <;> omega
  have hmx : (if least < 3 then 3 else least) = ((max least.toNat 3 : Nat) : Int) := by split <;> omega
  by_cases hs : min p q ≤ max least.toNat 3
  · have hs2 : ((min p q : Nat) : Int) ≤ ((max least.toNat 3 : Nat) : Int) := by omega
    have hsc := fun W hx hy => prod_school A B p q p q (dig Num.W a0) (dig Num.W b0) W hx hy (dig_inB Num.W_gt _) (dig_inB Num.W_gt _) (by omega) (by omega)
    simp only [val_dig Num.W_gt] at hsc
    have HSC := Aside0.mk hsc
    clear hsc
    generalize min p q = mn at *
    generalize max least.toNat 3 = mx at *
    go_enter Try.func52, Try.ntmps52
    go_wp2_with (first | ((go_at_call 41); (with_reducible refine (HNA.out _ (HA.out.later HBX.out)).mono ?_); (rintro e w' ⟨rfl, rfl⟩)) | ((go_at_call 41); (with_reducible refine (HNB.out _ (HB.out.later HBX.out)).mono ?_); (rintro e w' ⟨rfl, rfl⟩)) | ((go_at_call 60); (with_reducible refine (HSC.out _ (RA.out _ (HA.out.later HBX.out)) (RB.out _ (HB.out.later HBX.out))).mono ?_); (rintro e w1 ⟨v, rfl, hv, hb1⟩); (have HV1 := Aside0.mk hv); (have HB1 := Aside0.mk hb1); (clear hv hb1)))
    refine bodyPost_ret (results_tmp rfl _ _ _) rfl ?_
    exact ⟨v, rfl, vw_older HV1.out HBX.out.size, below_then HBX.out HB1.out⟩
  · have hp4 : 4 ≤ p := by omega
    have hq4 : 4 ≤ q := by omega
    obtain ⟨M, hM⟩ : ∃ M, M = max p q := ⟨_, rfl⟩
    obtain ⟨n, hn⟩ : ∃ n, n = (M + 1) / 2 := ⟨_, rfl⟩
    have hk : M - 1 < k := by omega
    have hs2 : ¬ ((min p q : Nat) : Int) ≤ ((max least.toNat 3 : Nat) : Int) := by omega
    have hxx : (if p < q then (q : Int) else (p : Int)) = (M : Int) := by split <;> omega
    have hxx2 : (if (p : Int) < (q : Int) then (q : Int) else (p : Int)) = (M : Int) := by split <;> omega
    have hw1 : IntKind.i64.wrap ((M : Int) + 1) = (M : Int) + 1 := by rw [IntKind.wrap_i64]; omega
    have hd : ((M : Int) + 1).tdiv 2 = (n : Int) := by rw [Int.tdiv_eq_ediv_of_nonneg (by omega)]; omega
    have hd2 : ((M : Int) + 1) / 2 = (n : Int) := by omega
    have hwp := Nat.pow_pos (n := n) Num.W_pos
    have HT : Aside0 (∀ (x y : Nat), x < Num.W ^ (M - 1) → y < Num.W ^ (M - 1) → ∀ A B ca cb W LB, Rd W A (dig Num.W x).length (dig Num.W x) → Rd W B (dig Num.W y).length (dig Num.W y) → (dig Num.W x).length ≤ ca → (dig Num.W y).length ≤ cb → W.cell? ⟨LB, 0, none⟩ = some (.int .i64 least) →
        Calls Try.prog 61 #[.slice A (dig Num.W x).length ca, .slice B (dig Num.W y).length cb, .pointer (some ⟨LB, 0, none⟩)] W (NewPost (dig Num.W (x * y)) W)) := ⟨fun x y hx hy A B ca cb W LB hrx hry hcx hcy hc => by
      have lx := dig_len_of_lt hx
      have ly := dig_len_of_lt hy
      have := kara1 (ih (M - 1) hk) A B _ _ ca cb (dig Num.W x) (dig Num.W y) W hrx hry hcx hcy (dig_inB Num.W_gt _) (dig_inB Num.W_gt _) (by omega) (by omega) (by rw [val_dig Num.W_gt]; exact lx) (by rw [val_dig Num.W_gt]; exact ly) hc
      rwa [val_dig Num.W_gt, val_dig Num.W_gt] at this⟩
    obtain ⟨AH, hAH⟩ : ∃ x, x = a0 / Num.W ^ n := ⟨_, rfl⟩
    obtain ⟨AL, hAL⟩ : ∃ x, x = a0 % Num.W ^ n := ⟨_, rfl⟩
    obtain ⟨BH, hBH⟩ : ∃ x, x = b0 / Num.W ^ n := ⟨_, rfl⟩
    obtain ⟨BL, hBL⟩ : ∃ x, x = b0 % Num.W ^ n := ⟨_, rfl⟩
    have HHA := Aside0.mk (fun W (hr : Rd W A p (dig Num.W a0)) => by
      have := prod_half (fun _ => True) A p p (dig Num.W a0) (n : Int) W (Vw.of_Rd hr (Nat.le_refl _) (fun _ _ _ => trivial)) (dig_inB Num.W_gt _)
      rwa [val_dig Num.W_gt, Int.toNat_natCast, ← hAH, ← hAL] at this)
    have HHB := Aside0.mk (fun W (hr : Rd W B q (dig Num.W b0)) => by
      have := prod_half (fun _ => True) B q q (dig Num.W b0) (n : Int) W (Vw.of_Rd hr (Nat.le_refl _) (fun _ _ _ => trivial)) (dig_inB Num.W_gt _)
      rwa [val_dig Num.W_gt, Int.toNat_natCast, ← hBH, ← hBL] at this)
    have HLA : Aside0 (AH < Num.W ^ (M - 1) ∧ AL < Num.W ^ (M - 1) ∧ AH + AL < Num.W ^ (M - 1)) := ⟨by
      rw [hAH, hAL]; exact half_lt (Nat.lt_of_lt_of_le HVA.out (Nat.pow_le_pow_right Num.W_pos (by omega))) (by omega) hn⟩
    have HLB : Aside0 (BH < Num.W ^ (M - 1) ∧ BL < Num.W ^ (M - 1) ∧ BH + BL < Num.W ^ (M - 1)) := ⟨by
      rw [hBH, hBL]; exact half_lt (Nat.lt_of_lt_of_le HVB.out (Nat.pow_le_pow_right Num.W_pos (by omega))) (by omega) hn⟩
    have HEA : Aside0 (a0 = AL + Num.W ^ n * AH) := ⟨by rw [hAH, hAL]; exact (Nat.mod_add_div _ _).symm⟩
    have HEB : Aside0 (b0 = BL + Num.W ^ n * BH) := ⟨by rw [hBH, hBL]; exact (Nat.mod_add_div _ _).symm⟩
    clear hAH hAL hBH hBL
    have HN := Aside0.mk hn
    have HMM := Aside0.mk hM
    have qb0 := blk_new (w.alloc (.cells #[.int .i64 least] 3)) (.cells #[.nilFunc] 73)
    have qs := blk_cell qb0 0
    have fs := blk_frozen qb0 0
    rw [World.size_alloc] at qs fs
    clear qb0
    have hb1 : Below w.heap.size w ((w.alloc (.cells #[.int .i64 least] 3)).alloc (.cells #[.func (.func 61) #[] #[.pointer (some ⟨w.heap.size, 0, none⟩)]] 73)) := below_alloc HBX.out _
    have HB1 := Aside0.mk hb1
    clear hb1
    have hnb : n ≤ 1073741824 := by omega
    have hMb : M ≤ 1073741824 := by omega
    have hM4 : 4 ≤ M := by omega
    clear hn hM ih hk hwp hla hlb hda hdb hla2 hlb2
    generalize min p q = mn at *
    generalize max least.toNat 3 = mx at *
    go_enter Try.func52, Try.ntmps52
    go_wp2_with (first | ((go_at_call 41); (with_reducible refine (HNA.out _ (HA.out.later HBX.out)).mono ?_); (rintro e w' ⟨rfl, rfl⟩)) | ((go_at_call 41); (with_reducible refine (HNB.out _ (HB.out.later HBX.out)).mono ?_); (rintro e w' ⟨rfl, rfl⟩)) | ((go_at_call 62); (with_reducible refine (HHA.out _ (RA.out _ (HA.out.later HB1.out))).mono ?_); (rintro e w2 ⟨v1, v2, rfl, hv1, hv2, hb⟩); (obtain ⟨A1, c1, rfl, hc1, hr1⟩ := hv1.reads); (obtain ⟨A2, c2, rfl, hc2, hr2⟩ := hv2.reads); (have HRAH := Aside0.mk hr1); (have HRAL := Aside0.mk hr2); (have HCAH := Aside0.mk hc1); (have HCAL := Aside0.mk hc2); (have HB2 := Aside0.mk (below_then HB1.out hb)); (have HBA := Aside0.mk hb); (clear hr1 hr2 hc1 hc2 hv1 hv2 hb)) | ((go_at_call 62); (with_reducible refine (HHB.out _ (RB.out _ (HB.out.later HB2.out))).mono ?_); (rintro e w3 ⟨v1, v2, rfl, hv1, hv2, hb⟩); (obtain ⟨B1, c3, rfl, hc1, hr1⟩ := hv1.reads); (obtain ⟨B2, c4, rfl, hc2, hr2⟩ := hv2.reads); (have HRBH := Aside0.mk hr1); (have HRBL := Aside0.mk hr2); (have HCBH := Aside0.mk hc1); (have HCBL := Aside0.mk hc2); (have HBB := Aside0.mk hb); (clear hr1 hr2 hc1 hc2 hv1 hv2 hb)))
    have R1 : Aside0 (Rd w3.drew A1 (dig Num.W AH).length (dig Num.W AH)) := ⟨HRAH.out.later HBB.out.drew⟩
    have R2 : Aside0 (Rd w3.drew A2 (dig Num.W AL).length (dig Num.W AL)) := ⟨HRAL.out.later HBB.out.drew⟩
    have R3 : Aside0 (Rd w3.drew B1 (dig Num.W BH).length (dig Num.W BH)) := ⟨HRBH.out⟩
    have R4 : Aside0 (Rd w3.drew B2 (dig Num.W BL).length (dig Num.W BL)) := ⟨HRBL.out⟩
    have hb3 := below_then HBA.out HBB.out
    have hq0 := blk_below (blk_alloc (blk_new w (.cells #[.int .i64 least] 3)) (.cells #[.func (.func 61) #[] #[.pointer (some ⟨w.heap.size, 0, none⟩)]] 73)) hb3
    have hq1 := blk_below (blk_new (w.alloc (.cells #[.int .i64 least] 3)) (.cells #[.func (.func 61) #[] #[.pointer (some ⟨w.heap.size, 0, none⟩)]] 73)) hb3
    rw [World.size_alloc] at hq1
    have q0 : w3.drew.cell? ⟨w.heap.size, 0, none⟩ = some (.int .i64 least) := blk_cell hq0 0
    have q1 : w3.drew.cell? ⟨w.heap.size + 1, 0, none⟩ = some (.func (.func 61) #[] #[.pointer (some ⟨w.heap.size, 0, none⟩)]) := blk_cell hq1 0
    have Q0 := Aside0.mk q0
    have Q1 := Aside0.mk q1
    have HB3 : Aside0 (Below w.heap.size w w3.drew) := ⟨(below_then HB2.out HBB.out).drew⟩
    clear HRAH HRAL HRBH HRBL hb3 hq0 hq1 q0 qx qs fs HBX HB1 HB2 HBA HBB HHA HHB RA RB HNA HNB
    clear w2 hmn hmn2 hmx hs hs2 hxx hxx2 hd hd2 hw1 HA HB
    go_region_held3 (fun w' => w'.cell? ⟨w.heap.size + 1, 0, none⟩ = some (.func (.func 61) #[] #[.pointer (some ⟨w.heap.size, 0, none⟩)])) (first | (with_reducible exact Q1.out) | with_reducible exact cell_later Q1.out (by repeat (with_reducible first | apply Below.refl | apply below_then' HB5.out | apply below_then' HB4.out)))
      (first
        | ((go_at_call 61); (with_reducible refine (HT.out AH BH HLA.out.1 HLB.out.1 A1 B1 c1 c3 _ _ R1.out R3.out HCAH.out HCBH.out Q0.out).mono ?_); (rintro e w4 ⟨v, rfl, hv, hb⟩); (obtain ⟨A5, c5, rfl, hc, hr⟩ := hv.reads); (have R5 := Aside0.mk hr); (have C5 := Aside0.mk hc); (have HB4 := Aside0.mk hb); (clear hr hc hb hv))
        | ((go_at_call 61); (with_reducible refine (HT.out AL BL HLA.out.2.1 HLB.out.2.1 A2 B2 c2 c4 _ _ (R2.out.later HB4.out) (R4.out.later HB4.out) HCAL.out HCBL.out (cell_later Q0.out HB4.out)).mono ?_); (rintro e w5 ⟨v, rfl, hv, hb⟩); (obtain ⟨A6, c6, rfl, hc, hr⟩ := hv.reads); (have R6 := Aside0.mk hr); (have C6 := Aside0.mk hc); (have HB5 := Aside0.mk hb); (clear hr hc hb hv)))
    obtain ⟨MID, hMID⟩ : ∃ x, x = (AH + AL) * (BH + BL) - (AH * BH + AL * BL) := ⟨_, rfl⟩
    have hks := kara_sum AH AL BH BL (Num.W ^ n)
    rw [← hMID, ← HEA.out, ← HEB.out] at hks
    have mul_lt : ∀ x y i j : Nat, x < Num.W ^ i → y < Num.W ^ j → x * y < Num.W ^ (i + j) := fun x y i j hx hy => by rw [Nat.pow_add]; exact Nat.mul_lt_mul_of_lt_of_lt hx hy
    have lh := mul_lt _ _ _ _ HLA.out.1 HLB.out.1
    have ll := mul_lt _ _ _ _ HLA.out.2.1 HLB.out.2.1
    have ls := mul_lt _ _ _ _ HLA.out.2.2 HLB.out.2.2
    have lm : MID < Num.W ^ (M - 1 + (M - 1)) := Nat.lt_of_le_of_lt (by rw [hMID]; exact Nat.sub_le _ _) ls
    have lup : ∀ x i, x < Num.W ^ i → i ≤ 2 * M + 2 * n → x < Num.W ^ (2 * M + 2 * n) := fun x i hx hi => Nat.lt_of_lt_of_le hx (Nat.pow_le_pow_right Num.W_pos hi)
    have pP : Num.W ^ n < Num.W ^ (n + 1) := Nat.pow_lt_pow_right Num.W_gt (Nat.lt_succ_self n)
    have pPP : Num.W ^ n * Num.W ^ n < Num.W ^ (2 * n + 1) := by rw [← Nat.pow_add]; exact Nat.pow_lt_pow_right Num.W_gt (by omega)
    have LX := Aside0.mk (lup _ _ (mul_lt _ _ _ _ lh pPP) (by omega))
    have LY := Aside0.mk (lup _ _ (mul_lt _ _ _ _ lm pP) (by omega))
    have LZ := Aside0.mk (lup _ _ ll (by omega))
    have LLH := Aside0.mk (lup _ _ lh (by omega))
    have LLS := Aside0.mk (lup _ _ ls (by omega))
    have LLL := Aside0.mk (lup _ _ ll (by omega))
    have HLE := Aside0.mk hks.2
    have LLT := Aside0.mk (Nat.lt_of_le_of_lt hks.2 LLS.out)
    have HM5 : Aside0 (∀ W, Rd W A5 (dig Num.W (AH * BH)).length (dig Num.W (AH * BH)) → Calls Try.prog 64 #[.slice A5 (dig Num.W (AH * BH)).length c5, .int .i64 (2 * (n : Int))] W (NewPost (dig Num.W (AH * BH * (Num.W ^ n * Num.W ^ n))) W)) := ⟨fun W hr => by
      have h := prod_moved A5 _ c5 _ (2 * (n : Int)) W hr C5.out (dig_inB Num.W_gt _) (by have := dig_len_of_lt lh; omega) (by omega)
      rwa [val_dig Num.W_gt, show (2 * (n : Int)).toNat = n + n by omega, Nat.pow_add] at h⟩
    have HM11 : Aside0 (∀ A c W, Rd W A (dig Num.W MID).length (dig Num.W MID) → (dig Num.W MID).length ≤ c → Calls Try.prog 64 #[.slice A (dig Num.W MID).length c, .int .i64 (n : Int)] W (NewPost (dig Num.W (MID * Num.W ^ n)) W)) := ⟨fun A c W hr hc => by
      have h := prod_moved A _ c _ (n : Int) W hr hc (dig_inB Num.W_gt _) (by have := dig_len_of_lt lm; omega) (by omega)
      rwa [val_dig Num.W_gt, Int.toNat_natCast] at h⟩
    have HKS := Aside0.mk hks
    have HMID := Aside0.mk hMID
    have h2n : IntKind.i64.wrap (2 * (n : Int)) = 2 * (n : Int) := by rw [IntKind.wrap_i64]; omega
    have hKB : 2 * M + 2 * n ≤ 1099511627776 := by omega
    have hKM : M - 1 ≤ 1099511627776 := by omega
    clear hks mul_lt lh ll ls lm lup pP pPP hMID
    go_wp2
    rename_i K hK
    have HEND : Aside0 (∀ (t0 t1 t2 t3 t4 t5 t6 t7 t9 t10 t11 t12 t16 t17 t18 t19 t20 t21 t22 t23 t24 t25 t26 t27 t28 t29 t30 t31 t32 t33 t34 t35 t36 t37 t38 t39 t40 t41 t42 t43 t44 t45 t46 t47 t48 t49 t50 t51 t52 t53 t54 t55 t56 t57 t58 t59 t60 t61 t62 t63 t64 t65 t66 t67 t68 t69 t70 t71 t72 t73 t74 t75 t76 t77 t78 t79 t80 t81 t82 t83 t84 t85 t86 t87 t88 t89 t90 t91 : Value) (A11 : Option Addr) (c11 : Nat) (wf : World), Rd wf A5 (dig Num.W (AH * BH)).length (dig Num.W (AH * BH)) → Rd wf A6 (dig Num.W (AL * BL)).length (dig Num.W (AL * BL)) → Rd wf A11 (dig Num.W MID).length (dig Num.W MID) → (dig Num.W MID).length ≤ c11 → Below w.heap.size w wf →
        K { tmps := #[t0, t1, t2, t3, t4, t5, t6, t7, .int .i64 (n : Int), t9, t10, t11, t12, .slice A5 (dig Num.W (AH * BH)).length c5, .slice A6 (dig Num.W (AL * BL)).length c6, .slice A11 (dig Num.W MID).length c11, t16, t17, t18, t19, t20, t21, t22, t23, t24, t25, t26, t27, t28, t29, t30, t31, t32, t33, t34, t35, t36, t37, t38, t39, t40, t41, t42, t43, t44, t45, t46, t47, t48, t49, t50, t51, t52, t53, t54, t55, t56, t57, t58, t59, t60, t61, t62, t63, t64, t65, t66, t67, t68, t69, t70, t71, t72, t73, t74, t75, t76, t77, t78, t79, t80, t81, t82, t83, t84, t85, t86, t87, t88, t89, t90, t91], defers := [] } wf) := ⟨by
      intro t0 t1 t2 t3 t4 t5 t6 t7 t9 t10 t11 t12 t16 t17 t18 t19 t20 t21 t22 t23 t24 t25 t26 t27 t28 t29 t30 t31 t32 t33 t34 t35 t36 t37 t38 t39 t40 t41 t42 t43 t44 t45 t46 t47 t48 t49 t50 t51 t52 t53 t54 t55 t56 t57 t58 t59 t60 t61 t62 t63 t64 t65 t66 t67 t68 t69 t70 t71 t72 t73 t74 t75 t76 t77 t78 t79 t80 t81 t82 t83 t84 t85 t86 t87 t88 t89 t90 t91 A11 c11 wf r5 r6 r11 h11 hbf
      refine hK _ _ ?_
      have S5 := Aside0.mk r5
      have S6 := Aside0.mk r6
      have S11 := Aside0.mk r11
      have SC := Aside0.mk h11
      have HBF := Aside0.mk hbf
      clear hK r5 r6 r11 h11 hbf
      go_wp2_with (first
        | ((go_at_call 64); (with_reducible refine (HM5.out _ S5.out).mono ?_); (rintro e w12 ⟨v, rfl, hv, hb⟩); (obtain ⟨A12, c12, rfl, hc, hr⟩ := hv.reads); (have R12 := Aside0.mk hr); (have C12 := Aside0.mk hc); (have HB12 := Aside0.mk hb); (clear hr hc hb hv))
        | ((go_at_call 64); (with_reducible refine (HM11.out _ _ _ (S11.out.later HB12.out) SC.out).mono ?_); (rintro e w13 ⟨v, rfl, hv, hb⟩); (obtain ⟨A13, c13, rfl, hc, hr⟩ := hv.reads); (have R13 := Aside0.mk hr); (have C13 := Aside0.mk hc); (have HB13 := Aside0.mk hb); (clear hr hc hb hv))
        | ((go_at_call 63); (with_reducible refine (sum_three A12 A13 A6 c12 c13 c6 _ _ _ _ _ _ _ (blk_new _ _) (R12.out.later (below_alloc HB13.out _)) C12.out (R13.out.later (below_alloc (Below.refl _ _) _)) C13.out (S6.out.later (below_alloc (below_then HB12.out HB13.out) _)) C6.out LX.out LY.out LZ.out hKB).mono ?_); (rintro e w14 ⟨v, rfl, hv, hb⟩); (have HV := Aside0.mk hv); (have HB14 := Aside0.mk (below_then (below_then HBF.out (below_alloc (below_then HB12.out HB13.out) _)) hb)); (clear hv hb)))
      refine bodyPost_ret (results_tmp rfl _ _ _) rfl ?_
      rw [← HKS.out.1]
      exact ⟨v, rfl, vw_older HV.out (by rw [World.size_alloc]; exact Nat.le_succ_of_le (below_then HBF.out (below_then HB12.out HB13.out)).size), HB14.out⟩⟩
    clear hK
    have T1 : Aside0 (Rd w5 A1 (dig Num.W AH).length (dig Num.W AH)) := ⟨R1.out.later (below_then HB4.out HB5.out)⟩
    have T2 : Aside0 (Rd w5 A2 (dig Num.W AL).length (dig Num.W AL)) := ⟨R2.out.later (below_then HB4.out HB5.out)⟩
    have T3 : Aside0 (Rd w5 B1 (dig Num.W BH).length (dig Num.W BH)) := ⟨R3.out.later (below_then HB4.out HB5.out)⟩
    have T4 : Aside0 (Rd w5 B2 (dig Num.W BL).length (dig Num.W BL)) := ⟨R4.out.later (below_then HB4.out HB5.out)⟩
    have T5 : Aside0 (Rd w5 A5 (dig Num.W (AH * BH)).length (dig Num.W (AH * BH))) := ⟨R5.out.later HB5.out⟩
    have T6 : Aside0 (Rd w5 A6 (dig Num.W (AL * BL)).length (dig Num.W (AL * BL))) := ⟨R6.out⟩
    have P0 := Aside0.mk (cell_later Q0.out (below_then HB4.out HB5.out))
    have P1 := Aside0.mk (cell_later Q1.out (below_then HB4.out HB5.out))
    have HBE := Aside0.mk (HB3.out.trans ((below_then HB4.out HB5.out).mono HB3.out.size))
    clear R1 R2 R3 R4 R5 R6 Q0 Q1 HB3 HB4 HB5 HEA HEB HM5 HM11 LX LY LZ HKS HVA HVB HP HQ HMM h2n
    have LQ := Aside0.mk (HMID.out ▸ rfl : (AH + AL) * (BH + BL) - (AH * BH + AL * BL) = MID)
    go_region_held3 (fun w' => w'.cell? ⟨w.heap.size + 1, 0, none⟩ = some (.func (.func 61) #[] #[.pointer (some ⟨w.heap.size, 0, none⟩)])) (first | (with_reducible exact P1.out) | with_reducible exact cell_later P1.out (by (repeat (with_reducible first | apply Below.refl | apply below_then' HB10.out | apply below_then' HB9.out | apply below_then' HB8.out | apply below_then' HB7.out | apply below_then' HB6.out | apply below_drew | apply below_alloc)); done))
      (first
        | ((go_at_call 63); (apply Go.Calls.mono); (with_reducible apply sum_two A1 A2 c1 c2 AH AL); (focus ((repeat (first | (with_reducible apply blk_below' HB10.out) | (with_reducible apply blk_below' HB9.out) | (with_reducible apply blk_below' HB8.out) | (with_reducible apply blk_below' HB7.out) | (with_reducible apply blk_below' HB6.out) | (with_reducible apply blk_drew) | ((with_reducible apply blk_new'); (simp; done)) | (with_reducible apply blk_alloc))); done)); (focus ((with_reducible apply Rd.later T1.out); (repeat (with_reducible first | apply Below.refl | apply below_then' HB10.out | apply below_then' HB9.out | apply below_then' HB8.out | apply below_then' HB7.out | apply below_then' HB6.out | apply below_drew | apply below_alloc)); done)); (exact HCAH.out); (focus ((with_reducible apply Rd.later T2.out); (repeat (with_reducible first | apply Below.refl | apply below_then' HB10.out | apply below_then' HB9.out | apply below_then' HB8.out | apply below_then' HB7.out | apply below_then' HB6.out | apply below_drew | apply below_alloc)); done)); (exact HCAL.out); (exact HLA.out.1); (exact HLA.out.2.1); (exact hKM); (rintro e w6 ⟨v, rfl, hv, hb⟩); (obtain ⟨A7, c7, rfl, hc, hr⟩ := hv.reads); (have R7 := Aside0.mk hr); (have C7 := Aside0.mk hc); (have HB6 := Aside0.mk hb); (clear hr hc hb hv))
        | ((go_at_call 63); (apply Go.Calls.mono); (with_reducible apply sum_two B1 B2 c3 c4 BH BL); (focus ((repeat (first | (with_reducible apply blk_below' HB10.out) | (with_reducible apply blk_below' HB9.out) | (with_reducible apply blk_below' HB8.out) | (with_reducible apply blk_below' HB7.out) | (with_reducible apply blk_below' HB6.out) | (with_reducible apply blk_drew) | ((with_reducible apply blk_new'); (simp; done)) | (with_reducible apply blk_alloc))); done)); (focus ((with_reducible apply Rd.later T3.out); (repeat (with_reducible first | apply Below.refl | apply below_then' HB10.out | apply below_then' HB9.out | apply below_then' HB8.out | apply below_then' HB7.out | apply below_then' HB6.out | apply below_drew | apply below_alloc)); done)); (exact HCBH.out); (focus ((with_reducible apply Rd.later T4.out); (repeat (with_reducible first | apply Below.refl | apply below_then' HB10.out | apply below_then' HB9.out | apply below_then' HB8.out | apply below_then' HB7.out | apply below_then' HB6.out | apply below_drew | apply below_alloc)); done)); (exact HCBL.out); (exact HLB.out.1); (exact HLB.out.2.1); (exact hKM); (rintro e w7 ⟨v, rfl, hv, hb⟩); (obtain ⟨A8, c8, rfl, hc, hr⟩ := hv.reads); (have R8 := Aside0.mk hr); (have C8 := Aside0.mk hc); (have HB7 := Aside0.mk hb); (clear hr hc hb hv))
        | ((go_at_call 61); (apply Go.Calls.mono); (with_reducible apply HT.out (AH + AL) (BH + BL) HLA.out.2.2 HLB.out.2.2 A7 A8 c7 c8); (focus ((with_reducible apply Rd.later R7.out); (repeat (with_reducible first | apply Below.refl | apply below_then' HB10.out | apply below_then' HB9.out | apply below_then' HB8.out | apply below_then' HB7.out | apply below_then' HB6.out | apply below_drew | apply below_alloc)); done)); (focus ((with_reducible apply Rd.later R8.out); (repeat (with_reducible first | apply Below.refl | apply below_then' HB10.out | apply below_then' HB9.out | apply below_then' HB8.out | apply below_then' HB7.out | apply below_then' HB6.out | apply below_drew | apply below_alloc)); done)); (exact C7.out); (exact C8.out); (focus ((with_reducible apply cell_later P0.out); (repeat (with_reducible first | apply Below.refl | apply below_then' HB10.out | apply below_then' HB9.out | apply below_then' HB8.out | apply below_then' HB7.out | apply below_then' HB6.out | apply below_drew | apply below_alloc)); done)); (rintro e w8 ⟨v, rfl, hv, hb⟩); (obtain ⟨A9, c9, rfl, hc, hr⟩ := hv.reads); (have R9 := Aside0.mk hr); (have C9 := Aside0.mk hc); (have HB8 := Aside0.mk hb); (clear hr hc hb hv))
        | ((go_at_call 63); (apply Go.Calls.mono); (with_reducible apply sum_two A5 A6 c5 c6 (AH * BH) (AL * BL)); (focus ((repeat (first | (with_reducible apply blk_below' HB10.out) | (with_reducible apply blk_below' HB9.out) | (with_reducible apply blk_below' HB8.out) | (with_reducible apply blk_below' HB7.out) | (with_reducible apply blk_below' HB6.out) | (with_reducible apply blk_drew) | ((with_reducible apply blk_new'); (simp; done)) | (with_reducible apply blk_alloc))); done)); (focus ((with_reducible apply Rd.later T5.out); (repeat (with_reducible first | apply Below.refl | apply below_then' HB10.out | apply below_then' HB9.out | apply below_then' HB8.out | apply below_then' HB7.out | apply below_then' HB6.out | apply below_drew | apply below_alloc)); done)); (exact C5.out); (focus ((with_reducible apply Rd.later T6.out); (repeat (with_reducible first | apply Below.refl | apply below_then' HB10.out | apply below_then' HB9.out | apply below_then' HB8.out | apply below_then' HB7.out | apply below_then' HB6.out | apply below_drew | apply below_alloc)); done)); (exact C6.out); (exact LLH.out); (exact LLL.out); (exact hKB); (rintro e w9 ⟨v, rfl, hv, hb⟩); (obtain ⟨A10, c10, rfl, hc, hr⟩ := hv.reads); (have R10 := Aside0.mk hr); (have C10 := Aside0.mk hc); (have HB9 := Aside0.mk hb); (clear hr hc hb hv))
        | ((go_at_call 34); (apply Go.Calls.mono); (with_reducible apply sub_dig A9 A10 c9 c10); (focus ((with_reducible apply Rd.later R9.out); (repeat (with_reducible first | apply Below.refl | apply below_then' HB10.out | apply below_then' HB9.out | apply below_then' HB8.out | apply below_then' HB7.out | apply below_then' HB6.out | apply below_drew | apply below_alloc)); done)); (focus ((with_reducible apply Rd.later R10.out); (repeat (with_reducible first | apply Below.refl | apply below_then' HB10.out | apply below_then' HB9.out | apply below_then' HB8.out | apply below_then' HB7.out | apply below_then' HB6.out | apply below_drew | apply below_alloc)); done)); (exact LLS.out); (exact LLT.out); (exact hKB); (exact HLE.out); (rintro e w10 ⟨⟨v, rfl, hv⟩, hb⟩); (rw [LQ.out] at hv); (obtain ⟨A11, c11, rfl, hc, hr⟩ := hv.reads); (have R11 := Aside0.mk hr); (have C11 := Aside0.mk hc); (have HB10 := Aside0.mk hb); (clear hr hc hb hv)))
    all_goals
      have hbz : Below w5.heap.size w5 w10 := (by (repeat (with_reducible first | apply Below.refl | apply below_then' HB10.out | apply below_then' HB9.out | apply below_then' HB8.out | apply below_then' HB7.out | apply below_then' HB6.out | apply below_drew | apply below_alloc)); done)
      exact HEND.out _ _ _ _ _ _ _ _ _ _ _ _ _ _ _ _ _ _ _ _ _ _ _ _ _ _ _ _ _ _ _ _ _ _ _ _ _ _ _ _ _ _ _ _ _ _ _ _ _ _ _ _ _ _ _ _ _ _ _ _ _ _ _ _ _ _ _ _ _ _ _ _ _ _ _ _ _ _ _ _ _ _ _ _ _ _ _ _ A11 c11 w10 (T5.out.later hbz) (T6.out.later hbz) R11.out C11.out (HBE.out.trans (hbz.mono HBE.out.size))
theorem kara_tells (least : Int) (k : Nat) : KaraTells least k := by
  induction k using Nat.strongRecOn with
  | _ k ih => exact kara_step least k ih
end Go.Proofs.Ytcgcffnhlafneaa.Hand

/- prod.Kara, prod.Square: the contracts, as the callers' texts take them. Conditions: words, not too many. -/
namespace Go.Proofs.Ytcgcffnhlafneaa.Hand
open Go.RowKit Go.Proofs.YtcgcffnhlafneaaW.PrintWords Go.Proofs.YtcgcffnhlafneaaW.PrintMore Go.Proofs.Ytcgcffnhlafneaa.Num
set_option linter.unusedVariables false
set_option linter.unusedSimpArgs false
def prod_Kara.f (l0 l1 : List Int) (a2 : Int) : Option (List Int) := if inb l0 = true ∧ inb l1 = true ∧ l0.length ≤ PLIM ∧ l1.length ≤ PLIM then some (dig W (val W l0 * val W l1)) else none
theorem prod_Kara.calls (A0 : Option Addr) (c0 : Nat) (l0 : List Int) (A1 : Option Addr) (c1 : Nat) (l1 : List Int) (a2 : Int) (r : List Int) (w : World)
    (hr0 : Kd.C (Kd.int .u64) w A0 l0.length l0) (hc0 : l0.length ≤ c0) (hr1 : Kd.C (Kd.int .u64) w A1 l1.length l1) (hc1 : l1.length ≤ c1) (h : prod_Kara.f l0 l1 a2 = some r) :
    Calls Try.prog 52 #[.slice A0 l0.length c0, .slice A1 l1.length c1, .int .i64 a2] w fun e w' => ∃ v0_ : Value, e = .returned (v0_) ∧ Kd.V (Kd.int .u64) 39 w' w.heap.size (fun k_ => (w.heap.size ≤ k_)) v0_ r ∧ Below w.heap.size w w' := by
  unfold prod_Kara.f at h
  split at h
  · rename_i hi
    cases h
    have hp : PLIM = 1073741824 := rfl
    exact calls_of_new (kara_tells a2 _ A0 A1 _ _ c0 c1 l0 l1 w (Rd.of_C hr0) (Rd.of_C hr1) hc0 hc1 (inb_iff.1 hi.1) (inb_iff.1 hi.2.1) (hp ▸ hi.2.2.1) (hp ▸ hi.2.2.2) (Nat.le_max_left _ (dig Num.W (val Num.W l1)).length) (Nat.le_max_right _ _))
  · cases h
def prod_Square.f (l0 : List Int) : Option (List Int) := if inb l0 = true ∧ l0.length ≤ PLIM then some (dig W (val W l0 * val W l0)) else none
set_option maxRecDepth 100000 in
theorem prod_Square.calls (A0 : Option Addr) (c0 : Nat) (l0 : List Int) (r : List Int) (w : World)
    (hr0 : Kd.C (Kd.int .u64) w A0 l0.length l0) (hc0 : l0.length ≤ c0) (h : prod_Square.f l0 = some r) :
    Calls Try.prog 35 #[.slice A0 l0.length c0] w fun e w' => ∃ v0_ : Value, e = .returned (v0_) ∧ Kd.V (Kd.int .u64) 39 w' w.heap.size (fun k_ => (w.heap.size ≤ k_)) v0_ r ∧ Below w.heap.size w w' := by
  unfold prod_Square.f at h
  split at h
  · rename_i hi
    cases h
    have hp : PLIM = 1073741824 := rfl
    have hk := kara_tells 24 _ A0 A0 _ _ c0 c0 l0 l0 w (Rd.of_C hr0) (Rd.of_C hr0) hc0 hc0 (inb_iff.1 hi.1) (inb_iff.1 hi.1) (hp ▸ hi.2) (hp ▸ hi.2) (Nat.le_refl _) (Nat.le_refl _)
    have HK := Aside0.mk hk
    clear hr0 hc0 hi hp hk
    refine calls_of_new ?_
    go_enter Try.func35, Try.ntmps35
    go_wp2_with ((go_at_call 52); (with_reducible refine HK.out.mono ?_); (rintro e w1 ⟨v, rfl, hv, hb1⟩); (have HV1 := Aside0.mk hv); (have HB1 := Aside0.mk hb1); (clear hv hb1))
    refine bodyPost_ret (results_tmp rfl _ _ _) rfl ?_
    exact ⟨v, rfl, HV1.out, HB1.out⟩
  · cases h
end Go.Proofs.Ytcgcffnhlafneaa.Hand
