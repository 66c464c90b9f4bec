/- prod.Half, prod.moved, prod.Mac by hand: a number's halves; a number, some words up; a number with another one times a word added. Conditions: words, not too many. -/
import Derived.Test.YtgoglfojjpibnaaHNatX
import Derived.Deep.RegionHeld3
namespace Go.Proofs.Ytgoglfojjpibnaa.Hand
open Go.RowKit Go.Proofs.YtgoglfojjpibnaaW.PrintWords Go.Proofs.YtgoglfojjpibnaaW.PrintMore Go.Proofs.Ytgoglfojjpibnaa.Num
set_option linter.unusedVariables false
set_option linter.unusedSimpArgs false
attribute [local go_sem] Oper.semAt_some max2_int min2_int max_two min_two

/-- A slice's array from the k'th word on (c words may stand there). -/
def shift (A : Option Addr) (c k : Nat) : Option Addr := if c - k = 0 then A else A.map (·.add k)
theorem run_tail (A : Option Addr) (n c k : Nat) (hk : k ≤ n) (hc : n ≤ c) (W : World) :
    (Instr.slice 22 (.slice A n c) (some (.int .i64 (k : Int))) none none).run Try.prog W = .ok (.slice (shift A c k) (n - k) (c - k)) W := by
  have h1 : (0 : Int) ≤ (k : Int) := by omega
  have h2 : (k : Int) ≤ (n : Int) := by omega
  obtain ⟨i, hi, hi2⟩ := Option.map_eq_some_iff.1 info64
  simp only [Prod.mk.injEq] at hi2
  have e1 : ∀ (w : World) b, (Instr.sliceBound (.int .i64 (k : Int)) n b).run Try.prog w = .ok k w := fun w b => by rw [run_sliceBound _ _ _ _ _ h1 h2, Int.toNat_natCast]
  simp [Instr.slice, run_underlying Try.underlying22, Instr.sliceBounds, e1, sizeOf, typeInfo, hi, Result.andThen]
  rw [hi2.2.1]
  have e : (c - k = 0) = (c = k) := propext ⟨fun h => by omega, fun h => by omega⟩
  simp [shift, e]
theorem run_head (A : Option Addr) (n c k : Nat) (hk : k ≤ c) (W : World) :
    (Instr.slice 22 (.slice A n c) none (some (.int .i64 (k : Int))) none).run Try.prog W = .ok (.slice A k c) W := by
  have h1 : (0 : Int) ≤ (k : Int) := by omega
  have h2 : (k : Int) ≤ (c : Int) := by omega
  obtain ⟨i, hi, hi2⟩ := Option.map_eq_some_iff.1 info64
  simp only [Prod.mk.injEq] at hi2
  have ha : (if c = 0 then A else A.map (·.add 0)) = A := by
    have : ∀ a : Addr, a.add 0 = a := fun a => by unfold Addr.add; simp
    split
    · rfl
    · cases A <;> simp [this]
  have e1 : ∀ (w : World) b, (Instr.sliceBound (.int .i64 (k : Int)) c b).run Try.prog w = .ok k w := fun w b => by rw [run_sliceBound _ _ _ _ _ h1 h2, Int.toNat_natCast]
  simp [Instr.slice, run_underlying Try.underlying22, Instr.sliceBounds, e1, sizeOf, typeInfo, hi, Result.andThen]
  simpa using ha
theorem Rd.tail {w : World} {A : Option Addr} {n c : Nat} {l : List Int} (h : Rd w A n l) (hc : n ≤ c) (k : Nat) (hk : k ≤ n) : Rd w (shift A c k) (n - k) (l.drop k) := by
  refine ⟨by rw [List.length_drop, h.1], Nat.le_trans (Nat.sub_le _ _) h.2.1, fun hn => ?_⟩
  obtain ⟨ad, rfl, hcell⟩ := h.2.2 (by omega)
  refine ⟨ad.add k, by rw [shift, if_neg (by omega)]; rfl, fun j hj => ?_⟩
  rw [Addr.add_add, hcell (k + j) (by omega), List.getD_eq_getElem?_getD, List.getD_eq_getElem?_getD, List.getElem?_drop]
theorem shift_block {A : Option Addr} {c k : Nat} {ad : Addr} (h : shift A c k = some ad) : ∃ a, A = some a ∧ ad.block = a.block := by
  unfold shift at h
  split at h
  · exact ⟨ad, h, rfl⟩
  · obtain ⟨a, ha, rfl⟩ := Option.map_eq_some_iff.1 h
    exact ⟨a, ha, block_add a k⟩
theorem Vw.tail {w : World} {base base' : Nat} {ok ok' : Nat → Prop} {A : Option Addr} {n c : Nat} {l : List Int} (h : Vw w base ok (.slice A n c) l) (k : Nat) (hk : k ≤ n) (hok : ∀ j, ok j → ok' j) : Vw w base' ok' (.slice (shift A c k) (n - k) (c - k)) (l.drop k) := by
  obtain ⟨hn, hc, hf⟩ := h.of
  have hl : (l.drop k).length = n - k := by rw [List.length_drop]; omega
  refine ⟨shift A c k, c - k, by rw [hl], by omega, fun W' hW => ?_⟩
  rw [hl]
  have h1 := Rd.of_C (hf W' fun j hj hlt => hW j (hok j hj) hlt)
  exact Rd.to_C (h1.tail hc k hk)
theorem Vw.head {w : World} {base base' : Nat} {ok ok' : Nat → Prop} {A : Option Addr} {n c : Nat} {l : List Int} (h : Vw w base ok (.slice A n c) l) (k : Nat) (hk : k ≤ n) (hok : ∀ j, ok j → ok' j) : Vw w base' ok' (.slice A k c) (l.take k) := by
  obtain ⟨hn, hc, hf⟩ := h.of
  have hl : (l.take k).length = k := by rw [List.length_take]; omega
  refine ⟨A, c, by rw [hl], by omega, fun W' hW => ?_⟩
  rw [hl]
  have h1 := Rd.of_C (hf W' fun j hj hlt => hW j (hok j hj) hlt)
  exact Rd.to_C (h1.take k (by omega))
theorem Vw.drew {w : World} {base : Nat} {ok : Nat → Prop} {v : Value} {l : List Int} (h : Vw w base ok v l) : Vw w.drew base ok v l := by
  obtain ⟨A, c, rfl, hc, hf⟩ := h
  exact ⟨A, c, rfl, hc, fun W' hW => hf W' fun j hj hlt => hW j hj hlt⟩

theorem vw_older {w : World} {base base' n m : Nat} {v : Value} {l : List Int} (h : Vw w base (fun k => n ≤ k) v l) (hm : m ≤ n) : Vw w base' (fun k => m ≤ k) v l := by
  obtain ⟨A, c, rfl, hc, hf⟩ := h
  exact ⟨A, c, rfl, hc, fun W' hW => hf W' fun j hj hlt => hW j (Nat.le_trans hm hj) hlt⟩
theorem below_then {a b c : World} (h : Below a.heap.size a b) (k : Below b.heap.size b c) : Below a.heap.size a c := h.trans (k.mono h.size)
theorem Rd.later {w w' : World} {A : Option Addr} {n : Nat} {l : List Int} (h : Rd w A n l) (hb : Below w.heap.size w w') : Rd w' A n l := (h.toB.keep hb).1
/-! ### prod.Half -/
def HalfPost (P0_ : Nat → Prop) (r1 r2 : List Int) (w : World) (e : Ending) (w' : World) : Prop :=
  ∃ v1 v2 : Value, e = .returned (.tuple #[v1, v2]) ∧ Vw w' w.heap.size (fun k => P0_ k ∨ w.heap.size ≤ k) v1 r1 ∧ Vw w' w.heap.size (fun k => P0_ k ∨ w.heap.size ≤ k) v2 r2 ∧ Below w.heap.size w w'
def prod_Half.f (l0 : List Int) (a1 : Int) : Option (List Int × List Int) := if inb l0 = true then some (dig W (val W l0 / W ^ a1.toNat), dig W (val W l0 % W ^ a1.toNat)) else none
set_option maxRecDepth 100000 in
set_option maxHeartbeats 2000000 in
theorem prod_half (P0_ : Nat → Prop) (A : Option Addr) (la ca : Nat) (a : List Int) (n : Int) (w : World) (hs : Vw w w.heap.size (fun k => P0_ k) (.slice A la ca) a) (hia : InB Num.W a) :
    Calls Try.prog 17 #[.slice A la ca, .int .i64 n] w (HalfPost P0_ (dig Num.W (val Num.W a / Num.W ^ n.toNat)) (dig Num.W (val Num.W a % Num.W ^ n.toNat)) w) := by
  obtain ⟨hl, hla, hf⟩ := hs.of
  have hr : Rd w A la a := Rd.of_C (Kd.F_now hf)
  obtain ⟨N, hN⟩ : ∃ N : Nat, N = if la < n.toNat then la else n.toNat := ⟨_, rfl⟩
  have hNl : N ≤ la := by rw [hN]; split <;> omega
  have hlim := hr.2.1
  obtain ⟨M, hM⟩ : ∃ M : Nat, M = n.toNat := ⟨_, rfl⟩
  have hm0 : (if n < 0 then 0 else n) = (M : Int) := by split <;> omega
  have hmx2 : (if la < M then (la : Int) else (M : Int)) = (N : Int) := by rw [hN]; split <;> split <;> omega
  have hmx : (if (la : Int) < (M : Int) then (la : Int) else (M : Int)) = (N : Int) := by rw [hN]; split <;> split <;> omega
  have hvl := val_lt Num.W_pos hia
  rw [← hl] at hvl
  have hdv : val Num.W a / Num.W ^ n.toNat = val Num.W (a.drop N) := by
    rw [val_drop_div Num.W_pos hia N (by omega), hN]
    split
    · rename_i h
      have := Nat.pow_le_pow_right Num.W_pos (Nat.le_of_lt h)
      rw [Nat.div_eq_of_lt (by omega), Nat.div_eq_of_lt hvl]
    · rfl
  have hmd : val Num.W a % Num.W ^ n.toNat = val Num.W (a.take N) := by
    rw [val_take_mod Num.W_pos hia N (by omega), hN]
    split
    · rename_i h
      have := Nat.pow_le_pow_right Num.W_pos (Nat.le_of_lt h)
      rw [Nat.mod_eq_of_lt (by omega), Nat.mod_eq_of_lt hvl]
    · rfl
  rw [hdv, hmd]
  have ht := run_tail A la ca N hNl hla
  have hh := run_head A la ca N (Nat.le_trans hNl hla)
  have RT := Aside0.mk (hr.tail hla N hNl)
  have RH := Aside0.mk (hr.take N hNl)
  have IT := Aside0.mk (inB_drop hia N)
  have IH := Aside0.mk (inB_take hia N)
  have NT := Aside0.mk (nat_norm' _ (la - N) (ca - N) _ _ RT.out.drew (by omega) IT.out)
  have NH := Aside0.mk (nat_norm' _ N ca _ _ RH.out.drew (by omega) IH.out)
  have HS := Aside0.mk hs
  have b1 : (0 : Int) ≤ (N : Int) := by omega
  have b2 : (N : Int) ≤ (la : Int) := by omega
  have b3 : (N : Int) ≤ (ca : Int) := by omega
  clear hN hM hs hf hvl hdv hmd hr hl
  go_enter Try.func17, Try.ntmps17
  go_wp2
  go_region_with (first | ((go_at_call 33); (with_reducible refine NT.out.mono ?_); (rintro e w' ⟨j1, hk1, he1, rfl, rfl⟩)) | ((go_at_call 33); (with_reducible refine NH.out.mono ?_); (rintro e w' ⟨j2, hk2, he2, rfl, rfl⟩)))
  all_goals
    go_wp2
    refine bodyPost_ret (results_tmp2 rfl _ _ _) rfl ?_
    refine ⟨_, _, rfl, ?_, ?_, (Below.refl w.heap.size w).drew⟩
    · rw [← he1]
      exact ((HS.out.tail (base' := 0) N hNl (fun _ h => .inl h)).cut j1 (by have := RT.out.1; omega) (fun _ h => h)).drew
    · rw [← he2]
      exact ((HS.out.head (base' := 0) N hNl (fun _ h => .inl h)).cut j2 (by have := RH.out.1; omega) (fun _ h => h)).drew
theorem prod_Half.calls (P0_ : Nat → Prop) (A0 : Option Addr) (c0 : Nat) (l0 : List Int) (a1 : Int) (r1 r2 : List Int) (w : World)
    (hs0 : Kd.V (Kd.int .u64) 38 w w.heap.size (fun k_ => P0_ k_) (.slice A0 l0.length c0) l0) (h : prod_Half.f l0 a1 = some (r1, r2)) :
    Calls Try.prog 17 #[.slice A0 l0.length c0, .int .i64 a1] w fun e w' => ∃ v0_ v1_ : Value, e = .returned (.tuple #[v0_, v1_]) ∧ Kd.V (Kd.int .u64) 38 w' w.heap.size (fun k_ => (P0_ k_ ∨ w.heap.size ≤ k_)) v0_ r1 ∧ Kd.V (Kd.int .u64) 38 w' w.heap.size (fun k_ => (P0_ k_ ∨ w.heap.size ≤ k_)) v1_ r2 ∧ Below w.heap.size w w' := by
  unfold prod_Half.f at h
  split at h
  · rename_i hi
    obtain ⟨rfl, rfl⟩ := Prod.mk.injEq .. ▸ Option.some.inj h
    exact Calls.mono (prod_half P0_ A0 _ c0 l0 a1 w hs0 (inb_iff.1 hi)) fun _ _ h => h
  · cases h

/-! ### prod.moved, prod.Mac -/
set_option maxRecDepth 100000 in
theorem prod_moved (A : Option Addr) (la ca : Nat) (a : List Int) (n : Int) (w : World) (hr : Rd w A la a) (hla : la ≤ ca) (hia : InB Num.W a) (hna : la ≤ 1099511627776) (hn : n ≤ 8589934592) :
    Calls Try.prog 35 #[.slice A la ca, .int .i64 n] w (NewPost (dig Num.W (val Num.W a * Num.W ^ n.toNat)) w) := by
  obtain ⟨N, hN⟩ : ∃ N : Nat, N = n.toNat := ⟨_, rfl⟩
  have hmx : (if n < 0 then 0 else n) = (N : Int) := by split <;> omega
  have hs := fun W hr => nat_shl A la ca a (64 * (N : Int)) W hr hla hia hna (by omega)
  have e : (64 * (N : Int)).toNat = 64 * N := by omega
  rw [e, ← W_pow] at hs
  rw [← hN]
  have HR := Aside0.mk hr
  have HS := Aside0.mk hs
  have hw : IntKind.i64.wrap (64 * (N : Int)) = 64 * (N : Int) := by rw [IntKind.wrap_i64]; omega
  clear hr hs hN e
  go_enter Try.func35, Try.ntmps35
  go_wp2_with ((go_at_call 45); (refine (HS.out _ HR.out).mono ?_); (rintro e w' ⟨v, rfl, hv, hb⟩); (have HV := Aside0.mk hv); (have HB := Aside0.mk hb); (clear hv hb))
  refine bodyPost_ret (results_tmp rfl _ _ _) rfl ?_
  exact ⟨v, rfl, HV.out, HB.out⟩
def MLIM : Nat := 4294967296
def prod_Mac.f (l0 l1 : List Int) (a2 a3 : Int) : Option (List Int) := if inb l0 = true ∧ inb l1 = true ∧ wd a2 = true ∧ l0.length ≤ MLIM ∧ l1.length ≤ MLIM ∧ a3 ≤ MLIM then some (dig W (val W l0 + val W l1 * a2.toNat * W ^ a3.toNat)) else none
theorem dig_len_of_lt {n k : Nat} (h : n < W ^ k) : (dig W n).length ≤ k := dig_length_le W_gt h
theorem val_lt_len {l : List Int} (h : InB W l) {k : Nat} (hk : l.length ≤ k) : val W l < W ^ k := Nat.lt_of_lt_of_le (val_lt W_pos h) (Nat.pow_le_pow_right W_pos hk)
set_option maxRecDepth 100000 in
set_option maxHeartbeats 2000000 in
theorem prod_mac (A B : Option Addr) (la ca lb cb : Nat) (a b : List Int) (x n : Int) (w : World) (ha : Rd w A la a) (hia : InB Num.W a) (hb : Rd w B lb b) (hib : InB Num.W b) (hx : Wd x) (hna : la ≤ 4294967296) (hnb : lb ≤ 4294967296) (hn : n ≤ 4294967296) :
    Calls Try.prog 22 #[.slice A la ca, .slice B lb cb, .int .u64 x, .int .i64 n] w (NewPost (dig Num.W (val Num.W a + val Num.W b * x.toNat * Num.W ^ n.toNat)) w) := by
  have hs := nat_scale B lb cb b x w hb hib hx (by omega)
  have hxv : x.toNat < Num.W ^ 1 := by have := hx.2; rw [Nat.pow_one, W_eq]; omega
  have hv1 : val Num.W b * x.toNat < Num.W ^ (lb + 1) := by
    rw [Nat.pow_add]
    exact Nat.mul_lt_mul_of_lt_of_lt (val_lt_len hib (Nat.le_of_eq hb.1)) hxv
  have hl1 := dig_len_of_lt hv1
  have hv2 : val Num.W b * x.toNat * Num.W ^ n.toNat < Num.W ^ (lb + 1 + n.toNat) := by
    rw [Nat.pow_add _ (lb + 1)]
    exact Nat.mul_lt_mul_of_pos_right hv1 (Nat.pow_pos Num.W_pos)
  have hl2 := dig_len_of_lt hv2
  have hm := fun A c W (hr : Rd W A (dig Num.W (val Num.W b * x.toNat)).length (dig Num.W (val Num.W b * x.toNat))) hc => prod_moved A _ c _ n W hr hc (dig_inB Num.W_gt _) (by omega) (by omega)
  rw [val_dig Num.W_gt] at hm
  have hd := fun A c W (hq : Rd W A (dig Num.W (val Num.W b * x.toNat * Num.W ^ n.toNat)).length (dig Num.W (val Num.W b * x.toNat * Num.W ^ n.toNat))) A' (hr : Rd W A' la a) => nat_add A' A la _ ca c a _ W hr hq hia (dig_inB Num.W_gt _) (by omega) (by omega)
  rw [val_dig Num.W_gt] at hd
  have HA := Aside0.mk ha
  have HS := Aside0.mk hs
  have HM := Aside0.mk hm
  have HD := Aside0.mk hd
  clear ha hb hs hm hd hv1 hv2 hl1 hl2 hxv
  go_enter Try.func22, Try.ntmps22
  go_wp2_with (first | ((go_at_call 36); (refine HS.out.mono ?_); (rintro e w1 ⟨v, rfl, hv, hb1⟩); (obtain ⟨A1, c1, rfl, hc1, hr1⟩ := hv.reads); (have HR1 := Aside0.mk hr1); (have HC1 := Aside0.mk hc1); (have HB1 := Aside0.mk hb1); (clear hv hb1 hr1 hc1)) | ((go_at_call 35); (refine (HM.out _ _ _ HR1.out HC1.out).mono ?_); (rintro e w2 ⟨v, rfl, hv, hb2⟩); (obtain ⟨A2, c2, rfl, hc2, hr2⟩ := hv.reads); (have HR2 := Aside0.mk hr2); (have HC2 := Aside0.mk hc2); (have HB2 := Aside0.mk hb2); (clear hv hb2 hr2 hc2)) | ((go_at_call 34); (refine (HD.out _ _ _ HR2.out _ (HA.out.later (below_then HB1.out HB2.out))).mono ?_); (rintro e w3 ⟨v, rfl, hv, hb3⟩); (have HV := Aside0.mk hv); (have HB3 := Aside0.mk hb3); (clear hv hb3)))
  refine bodyPost_ret (results_tmp rfl _ _ _) rfl ?_
  exact ⟨v, rfl, vw_older HV.out (below_then HB1.out HB2.out).size, below_then (below_then HB1.out HB2.out) HB3.out⟩
theorem prod_Mac.calls (A0 : Option Addr) (c0 : Nat) (l0 : List Int) (A1 : Option Addr) (c1 : Nat) (l1 : List Int) (a2 a3 : Int) (r : List Int) (w : World)
    (hr0 : Kd.C (Kd.int .u64) w A0 l0.length l0) (_hc0 : l0.length ≤ c0) (hr1 : Kd.C (Kd.int .u64) w A1 l1.length l1) (_hc1 : l1.length ≤ c1) (h : prod_Mac.f l0 l1 a2 a3 = some r) :
    Calls Try.prog 22 #[.slice A0 l0.length c0, .slice A1 l1.length c1, .int .u64 a2, .int .i64 a3] w fun e w' => ∃ v0_ : Value, e = .returned (v0_) ∧ Kd.V (Kd.int .u64) 38 w' w.heap.size (fun k_ => (w.heap.size ≤ k_)) v0_ r ∧ Below w.heap.size w w' := by
  unfold prod_Mac.f at h
  split at h
  · rename_i hi
    cases h
    exact calls_of_new (prod_mac A0 A1 _ c0 _ c1 l0 l1 a2 a3 w (Rd.of_C hr0) (inb_iff.1 hi.1) (Rd.of_C hr1) (inb_iff.1 hi.2.1) (wd_iff.1 hi.2.2.1) hi.2.2.2.1 hi.2.2.2.2.1 hi.2.2.2.2.2)
  · cases h
end Go.Proofs.Ytgoglfojjpibnaa.Hand
