/- prod.Kara, prod.Square by hand: the row of the product of the values; new memory alone is written. Conditions: words, not too many. -/
import Derived.Test.YtgoglfojjpibnaaHProdC
import Derived.Deep.DrawnRows
namespace Go.Proofs.Ytgoglfojjpibnaa.Hand
open Go.RowKit Go.Proofs.YtgoglfojjpibnaaW.PrintWords Go.Proofs.YtgoglfojjpibnaaW.PrintMore Go.Proofs.Ytgoglfojjpibnaa.Num
set_option linter.unusedVariables false
set_option linter.unusedSimpArgs false
attribute [local go_sem] Oper.semAt_some max2_int min2_int max_two min_two
attribute [local go_sem ↓] Go.wp_at_zero Go.wp_at_succ

theorem run_store_fn (P : Program) (w : World) (a : Addr) (fn : Fn) (x y : Array Value) (m : Mode) : (store a (.func fn x y) m).run P w = stored P w a (.func fn x y) m := run_store P w a _ m rfl
attribute [local go_sem] run_store_fn

theorem below_then' {a b c : World} (k : Below b.heap.size b c) (h : Below a.heap.size a b) : Below a.heap.size a c := below_then h k
theorem blk_below' {w w1 : World} {g : Nat} {o : Obj} (hb : Below w.heap.size w w1) (h : w.heap[g]? = some o) : w1.heap[g]? = some o := blk_below h hb
/-- What Kara answers, for numbers of k words at most. -/
def KaraTells (least : Int) (k : Nat) : Prop := ∀ (A B : Option Addr) (la lb ca cb : Nat) (a b : List Int) (w : World), Rd w A la a → Rd w B lb b → la ≤ ca → lb ≤ cb → InB Num.W a → InB Num.W b → la ≤ 1073741824 → lb ≤ 1073741824 →
  (dig Num.W (val Num.W a)).length ≤ k → (dig Num.W (val Num.W b)).length ≤ k →
  Calls Try.prog 25 #[.slice A la ca, .slice B lb cb, .int .i64 least] w (NewPost (dig Num.W (val Num.W a * val Num.W b)) w)
set_option maxRecDepth 100000 in
theorem kara1 {least : Int} {k LB : Nat} (hk : KaraTells least k) (A B : Option Addr) (la lb ca cb : Nat) (a b : List Int) (w : World) (ha : Rd w A la a) (hb : Rd w B lb b) (hca : la ≤ ca) (hcb : lb ≤ cb) (hia : InB Num.W a) (hib : InB Num.W b) (hla : la ≤ 1073741824) (hlb : lb ≤ 1073741824)
    (hda : (dig Num.W (val Num.W a)).length ≤ k) (hdb : (dig Num.W (val Num.W b)).length ≤ k) (hc : w.cell? ⟨LB, 0, none⟩ = some (.int .i64 least)) :
    Calls Try.prog 38 #[.slice A la ca, .slice B lb cb, .pointer (some ⟨LB, 0, none⟩)] w (NewPost (dig Num.W (val Num.W a * val Num.W b)) w) := by
  have HK := Aside0.mk (hk A B la lb ca cb a b w ha hb hca hcb hia hib hla hlb hda hdb)
  clear ha hb hca hcb hia hib hla hlb hda hdb
  go_enter Try.func38, Try.ntmps38
  go_wp2_with ((go_at_call 25); (with_reducible refine HK.out.mono ?_); (rintro e w1 ⟨v, rfl, hv, hb1⟩); (have HV1 := Aside0.mk hv); (have HB1 := Aside0.mk hb1); (clear hv hb1))
  refine bodyPost_ret (results_tmp rfl _ _ _) rfl ?_
  exact ⟨v, rfl, HV1.out, HB1.out⟩
set_option maxHeartbeats 16000000 in
set_option maxRecDepth 100000 in
theorem kara_step (least : Int) (k : Nat) (ih : ∀ j, j < k → KaraTells least j) : KaraTells least k := by
  intro A B la lb ca cb a b w ha hb hca hcb hia hib hla hlb hda hdb
  obtain ⟨a0, ha0⟩ : ∃ a0, a0 = val Num.W a := ⟨_, rfl⟩
  obtain ⟨b0, hb0⟩ : ∃ b0, b0 = val Num.W b := ⟨_, rfl⟩
  rw [← ha0] at hda
  rw [← hb0] at hdb
  rw [← ha0, ← hb0]
  have hna : ∀ W, Rd W A la a → Calls Try.prog 33 #[.slice A la ca] W fun e w' => e = .returned (.slice A (dig Num.W a0).length (dig Num.W a0).length) ∧ W = w' := fun W hr => by rw [ha0]; exact nat_norm_at A la ca a W hr hca hia
  have hnb : ∀ W, Rd W B lb b → Calls Try.prog 33 #[.slice B lb cb] W fun e w' => e = .returned (.slice B (dig Num.W b0).length (dig Num.W b0).length) ∧ W = w' := fun W hr => by rw [hb0]; exact nat_norm_at B lb cb b W hr hcb hib
  have hal : a.length = la := ha.1
  have hbl : b.length = lb := hb.1
  have ra : ∀ W, Rd W A la a → Rd W A (dig Num.W a0).length (dig Num.W a0) := fun W hr => by
    have := norm_facts hia
    rw [← ha0] at this
    have h := hr.take (dig Num.W a0).length (by omega)
    rwa [this.2] at h
  have rb : ∀ W, Rd W B lb b → Rd W B (dig Num.W b0).length (dig Num.W b0) := fun W hr => by
    have := norm_facts hib
    rw [← hb0] at this
    have h := hr.take (dig Num.W b0).length (by omega)
    rwa [this.2] at h
  have hla2 : (dig Num.W a0).length ≤ 1073741824 := by have := norm_facts hia; rw [← ha0] at this; omega
  have hlb2 : (dig Num.W b0).length ≤ 1073741824 := by have := norm_facts hib; rw [← hb0] at this; omega
  have hva : a0 < Num.W ^ (dig Num.W a0).length := by have := val_lt Num.W_pos (dig_inB Num.W_gt a0); rwa [val_dig Num.W_gt] at this
  have hvb : b0 < Num.W ^ (dig Num.W b0).length := by have := val_lt Num.W_pos (dig_inB Num.W_gt b0); rwa [val_dig Num.W_gt] at this
  generalize hp : (dig Num.W a0).length = p at *
  generalize hq : (dig Num.W b0).length = q at *
  have HA := Aside0.mk ha
  have HB := Aside0.mk hb
  have HNA := Aside0.mk hna
  have HNB := Aside0.mk hnb
  have RA := Aside0.mk ra
  have RB := Aside0.mk rb
  have HP := Aside0.mk hp
  have HQ := Aside0.mk hq
  have HVA := Aside0.mk hva
  have HVB := Aside0.mk hvb
  have hbx : Below w.heap.size w (w.alloc (.cells #[.int .i64 least] 3)) := below_alloc (Below.refl _ _) _
  have HBX := Aside0.mk hbx
  have qx : (w.alloc (.cells #[.int .i64 least] 3)).cell? ⟨w.heap.size, 0, none⟩ = some (.int .i64 least) := blk_cell (blk_new _ _) 0
  clear ha hb hna hnb ra rb hal hbl hp hq ha0 hb0 hia hib hbx hva hvb
  have hmn : (if q < p then (q : Int) else (p : Int)) = ((min p q : Nat) : Int) := by split <;> omega
  have hmn2 : (if (q : Int) < (p : Int) then (q : Int) else (p : Int)) = ((min p q : Nat) : Int) := by split <;> omega
  have hmx : (if least < 3 then 3 else least) = ((max least.toNat 3 : Nat) : Int) := by split <;> omega
  by_cases hs : min p q ≤ max least.toNat 3
  · have hs2 : ((min p q : Nat) : Int) ≤ ((max least.toNat 3 : Nat) : Int) := by omega
    have hsc := fun W hx hy => prod_school A B p q p q (dig Num.W a0) (dig Num.W b0) W hx hy (dig_inB Num.W_gt _) (dig_inB Num.W_gt _) (by omega) (by omega)
    simp only [val_dig Num.W_gt] at hsc
    have HSC := Aside0.mk hsc
    clear hsc
    generalize min p q = mn at *
    generalize max least.toNat 3 = mx at *
    go_enter Try.func25, Try.ntmps25
    go_wp2_with (first | ((go_at_call 33); (with_reducible refine (HNA.out _ (HA.out.later HBX.out)).mono ?_); (rintro e w' ⟨rfl, rfl⟩)) | ((go_at_call 33); (with_reducible refine (HNB.out _ (HB.out.later HBX.out)).mono ?_); (rintro e w' ⟨rfl, rfl⟩)) | ((go_at_call 15); (with_reducible refine (HSC.out _ (RA.out _ (HA.out.later HBX.out)) (RB.out _ (HB.out.later HBX.out))).mono ?_); (rintro e w1 ⟨v, rfl, hv, hb1⟩); (have HV1 := Aside0.mk hv); (have HB1 := Aside0.mk hb1); (clear hv hb1)))
    refine bodyPost_ret (results_tmp rfl _ _ _) rfl ?_
    exact ⟨v, rfl, vw_older HV1.out HBX.out.size, below_then HBX.out HB1.out⟩
  · have hp4 : 4 ≤ p := by omega
    have hq4 : 4 ≤ q := by omega
    obtain ⟨M, hM⟩ : ∃ M, M = max p q := ⟨_, rfl⟩
    obtain ⟨n, hn⟩ : ∃ n, n = (M + 1) / 2 := ⟨_, rfl⟩
    have hk : M - 1 < k := by omega
    have hs2 : ¬ ((min p q : Nat) : Int) ≤ ((max least.toNat 3 : Nat) : Int) := by omega
    have hxx : (if p < q then (q : Int) else (p : Int)) = (M : Int) := by split <;> omega
    have hxx2 : (if (p : Int) < (q : Int) then (q : Int) else (p : Int)) = (M : Int) := by split <;> omega
    have hw1 : IntKind.i64.wrap ((M : Int) + 1) = (M : Int) + 1 := by rw [IntKind.wrap_i64]; omega
    have hd : ((M : Int) + 1).tdiv 2 = (n : Int) := by rw [Int.tdiv_eq_ediv_of_nonneg (by omega)]; omega
    have hd2 : ((M : Int) + 1) / 2 = (n : Int) := by omega
    have hwp := Nat.pow_pos (n := n) Num.W_pos
    have HT : Aside0 (∀ (x y : Nat), x < Num.W ^ (M - 1) → y < Num.W ^ (M - 1) → ∀ A B ca cb W LB, Rd W A (dig Num.W x).length (dig Num.W x) → Rd W B (dig Num.W y).length (dig Num.W y) → (dig Num.W x).length ≤ ca → (dig Num.W y).length ≤ cb → W.cell? ⟨LB, 0, none⟩ = some (.int .i64 least) →
        Calls Try.prog 38 #[.slice A (dig Num.W x).length ca, .slice B (dig Num.W y).length cb, .pointer (some ⟨LB, 0, none⟩)] W (NewPost (dig Num.W (x * y)) W)) := ⟨fun x y hx hy A B ca cb W LB hrx hry hcx hcy hc => by
      have lx := dig_len_of_lt hx
      have ly := dig_len_of_lt hy
      have := kara1 (ih (M - 1) hk) A B _ _ ca cb (dig Num.W x) (dig Num.W y) W hrx hry hcx hcy (dig_inB Num.W_gt _) (dig_inB Num.W_gt _) (by omega) (by omega) (by rw [val_dig Num.W_gt]; exact lx) (by rw [val_dig Num.W_gt]; exact ly) hc
      rwa [val_dig Num.W_gt, val_dig Num.W_gt] at this⟩
    obtain ⟨AH, hAH⟩ : ∃ x, x = a0 / Num.W ^ n := ⟨_, rfl⟩
    obtain ⟨AL, hAL⟩ : ∃ x, x = a0 % Num.W ^ n := ⟨_, rfl⟩
    obtain ⟨BH, hBH⟩ : ∃ x, x = b0 / Num.W ^ n := ⟨_, rfl⟩
    obtain ⟨BL, hBL⟩ : ∃ x, x = b0 % Num.W ^ n := ⟨_, rfl⟩
    have HHA := Aside0.mk (fun W (hr : Rd W A p (dig Num.W a0)) => by
      have := prod_half (fun _ => True) A p p (dig Num.W a0) (n : Int) W (Vw.of_Rd hr (Nat.le_refl _) (fun _ _ _ => trivial)) (dig_inB Num.W_gt _)
      rwa [val_dig Num.W_gt, Int.toNat_natCast, ← hAH, ← hAL] at this)
    have HHB := Aside0.mk (fun W (hr : Rd W B q (dig Num.W b0)) => by
      have := prod_half (fun _ => True) B q q (dig Num.W b0) (n : Int) W (Vw.of_Rd hr (Nat.le_refl _) (fun _ _ _ => trivial)) (dig_inB Num.W_gt _)
      rwa [val_dig Num.W_gt, Int.toNat_natCast, ← hBH, ← hBL] at this)
    have HLA : Aside0 (AH < Num.W ^ (M - 1) ∧ AL < Num.W ^ (M - 1) ∧ AH + AL < Num.W ^ (M - 1)) := ⟨by
      rw [hAH, hAL]; exact half_lt (Nat.lt_of_lt_of_le HVA.out (Nat.pow_le_pow_right Num.W_pos (by omega))) (by omega) hn⟩
    have HLB : Aside0 (BH < Num.W ^ (M - 1) ∧ BL < Num.W ^ (M - 1) ∧ BH + BL < Num.W ^ (M - 1)) := ⟨by
      rw [hBH, hBL]; exact half_lt (Nat.lt_of_lt_of_le HVB.out (Nat.pow_le_pow_right Num.W_pos (by omega))) (by omega) hn⟩
    have HEA : Aside0 (a0 = AL + Num.W ^ n * AH) := ⟨by rw [hAH, hAL]; exact (Nat.mod_add_div _ _).symm⟩
    have HEB : Aside0 (b0 = BL + Num.W ^ n * BH) := ⟨by rw [hBH, hBL]; exact (Nat.mod_add_div _ _).symm⟩
    clear hAH hAL hBH hBL
    have HN := Aside0.mk hn
    have HMM := Aside0.mk hM
    have qb0 := blk_new (w.alloc (.cells #[.int .i64 least] 3)) (.cells #[.nilFunc] 56)
    have qs := blk_cell qb0 0
    have fs := blk_frozen qb0 0
    rw [World.size_alloc] at qs fs
    clear qb0
    have hb1 : Below w.heap.size w ((w.alloc (.cells #[.int .i64 least] 3)).alloc (.cells #[.func (.func 38) #[] #[.pointer (some ⟨w.heap.size, 0, none⟩)]] 56)) := below_alloc HBX.out _
    have HB1 := Aside0.mk hb1
    clear hb1
    have hnb : n ≤ 1073741824 := by omega
    have hMb : M ≤ 1073741824 := by omega
    have hM4 : 4 ≤ M := by omega
    clear hn hM ih hk hwp hla hlb hda hdb hla2 hlb2
    generalize min p q = mn at *
    generalize max least.toNat 3 = mx at *
    go_enter Try.func25, Try.ntmps25
    go_wp2_with (first | ((go_at_call 33); (with_reducible refine (HNA.out _ (HA.out.later HBX.out)).mono ?_); (rintro e w' ⟨rfl, rfl⟩)) | ((go_at_call 33); (with_reducible refine (HNB.out _ (HB.out.later HBX.out)).mono ?_); (rintro e w' ⟨rfl, rfl⟩)) | ((go_at_call 17); (with_reducible refine (HHA.out _ (RA.out _ (HA.out.later HB1.out))).mono ?_); (rintro e w2 ⟨v1, v2, rfl, hv1, hv2, hb⟩); (obtain ⟨A1, c1, rfl, hc1, hr1⟩ := hv1.reads); (obtain ⟨A2, c2, rfl, hc2, hr2⟩ := hv2.reads); (have HRAH := Aside0.mk hr1); (have HRAL := Aside0.mk hr2); (have HCAH := Aside0.mk hc1); (have HCAL := Aside0.mk hc2); (have HB2 := Aside0.mk (below_then HB1.out hb)); (have HBA := Aside0.mk hb); (clear hr1 hr2 hc1 hc2 hv1 hv2 hb)) | ((go_at_call 17); (with_reducible refine (HHB.out _ (RB.out _ (HB.out.later HB2.out))).mono ?_); (rintro e w3 ⟨v1, v2, rfl, hv1, hv2, hb⟩); (obtain ⟨B1, c3, rfl, hc1, hr1⟩ := hv1.reads); (obtain ⟨B2, c4, rfl, hc2, hr2⟩ := hv2.reads); (have HRBH := Aside0.mk hr1); (have HRBL := Aside0.mk hr2); (have HCBH := Aside0.mk hc1); (have HCBL := Aside0.mk hc2); (have HBB := Aside0.mk hb); (clear hr1 hr2 hc1 hc2 hv1 hv2 hb)))
    have R1 : Aside0 (Rd w3.drew A1 (dig Num.W AH).length (dig Num.W AH)) := ⟨HRAH.out.later HBB.out.drew⟩
    have R2 : Aside0 (Rd w3.drew A2 (dig Num.W AL).length (dig Num.W AL)) := ⟨HRAL.out.later HBB.out.drew⟩
    have R3 : Aside0 (Rd w3.drew B1 (dig Num.W BH).length (dig Num.W BH)) := ⟨HRBH.out⟩
    have R4 : Aside0 (Rd w3.drew B2 (dig Num.W BL).length (dig Num.W BL)) := ⟨HRBL.out⟩
    have hb3 := below_then HBA.out HBB.out
    have hq0 := blk_below (blk_alloc (blk_new w (.cells #[.int .i64 least] 3)) (.cells #[.func (.func 38) #[] #[.pointer (some ⟨w.heap.size, 0, none⟩)]] 56)) hb3
    have hq1 := blk_below (blk_new (w.alloc (.cells #[.int .i64 least] 3)) (.cells #[.func (.func 38) #[] #[.pointer (some ⟨w.heap.size, 0, none⟩)]] 56)) hb3
    rw [World.size_alloc] at hq1
    have q0 : w3.drew.cell? ⟨w.heap.size, 0, none⟩ = some (.int .i64 least) := blk_cell hq0 0
    have q1 : w3.drew.cell? ⟨w.heap.size + 1, 0, none⟩ = some (.func (.func 38) #[] #[.pointer (some ⟨w.heap.size, 0, none⟩)]) := blk_cell hq1 0
    have Q0 := Aside0.mk q0
    have Q1 := Aside0.mk q1
    have HB3 : Aside0 (Below w.heap.size w w3.drew) := ⟨(below_then HB2.out HBB.out).drew⟩
    clear HRAH HRAL HRBH HRBL hb3 hq0 hq1 q0 qx qs fs HBX HB1 HB2 HBA HBB HHA HHB RA RB HNA HNB
    clear w2 hmn hmn2 hmx hs hs2 hxx hxx2 hd hd2 hw1 HA HB
    go_region_held3 (fun w' => w'.cell? ⟨w.heap.size + 1, 0, none⟩ = some (.func (.func 38) #[] #[.pointer (some ⟨w.heap.size, 0, none⟩)])) (first | (with_reducible exact Q1.out) | with_reducible exact cell_later Q1.out (by repeat (with_reducible first | apply Below.refl | apply below_then' HB5.out | apply below_then' HB4.out)))
      (first
        | ((go_at_call 38); (with_reducible refine (HT.out AH BH HLA.out.1 HLB.out.1 A1 B1 c1 c3 _ _ R1.out R3.out HCAH.out HCBH.out Q0.out).mono ?_); (rintro e w4 ⟨v, rfl, hv, hb⟩); (obtain ⟨A5, c5, rfl, hc, hr⟩ := hv.reads); (have R5 := Aside0.mk hr); (have C5 := Aside0.mk hc); (have HB4 := Aside0.mk hb); (clear hr hc hb hv))
        | ((go_at_call 38); (with_reducible refine (HT.out AL BL HLA.out.2.1 HLB.out.2.1 A2 B2 c2 c4 _ _ (R2.out.later HB4.out) (R4.out.later HB4.out) HCAL.out HCBL.out (cell_later Q0.out HB4.out)).mono ?_); (rintro e w5 ⟨v, rfl, hv, hb⟩); (obtain ⟨A6, c6, rfl, hc, hr⟩ := hv.reads); (have R6 := Aside0.mk hr); (have C6 := Aside0.mk hc); (have HB5 := Aside0.mk hb); (clear hr hc hb hv)))
    obtain ⟨MID, hMID⟩ : ∃ x, x = (AH + AL) * (BH + BL) - (AH * BH + AL * BL) := ⟨_, rfl⟩
    have hks := kara_sum AH AL BH BL (Num.W ^ n)
    rw [← hMID, ← HEA.out, ← HEB.out] at hks
    have mul_lt : ∀ x y i j : Nat, x < Num.W ^ i → y < Num.W ^ j → x * y < Num.W ^ (i + j) := fun x y i j hx hy => by rw [Nat.pow_add]; exact Nat.mul_lt_mul_of_lt_of_lt hx hy
    have lh := mul_lt _ _ _ _ HLA.out.1 HLB.out.1
    have ll := mul_lt _ _ _ _ HLA.out.2.1 HLB.out.2.1
    have ls := mul_lt _ _ _ _ HLA.out.2.2 HLB.out.2.2
    have lm : MID < Num.W ^ (M - 1 + (M - 1)) := Nat.lt_of_le_of_lt (by rw [hMID]; exact Nat.sub_le _ _) ls
    have lup : ∀ x i, x < Num.W ^ i → i ≤ 2 * M + 2 * n → x < Num.W ^ (2 * M + 2 * n) := fun x i hx hi => Nat.lt_of_lt_of_le hx (Nat.pow_le_pow_right Num.W_pos hi)
    have pP : Num.W ^ n < Num.W ^ (n + 1) := Nat.pow_lt_pow_right Num.W_gt (Nat.lt_succ_self n)
    have pPP : Num.W ^ n * Num.W ^ n < Num.W ^ (2 * n + 1) := by rw [← Nat.pow_add]; exact Nat.pow_lt_pow_right Num.W_gt (by omega)
    have LX := Aside0.mk (lup _ _ (mul_lt _ _ _ _ lh pPP) (by omega))
    have LY := Aside0.mk (lup _ _ (mul_lt _ _ _ _ lm pP) (by omega))
    have LZ := Aside0.mk (lup _ _ ll (by omega))
    have LLH := Aside0.mk (lup _ _ lh (by omega))
    have LLS := Aside0.mk (lup _ _ ls (by omega))
    have LLL := Aside0.mk (lup _ _ ll (by omega))
    have HLE := Aside0.mk hks.2
    have LLT := Aside0.mk (Nat.lt_of_le_of_lt hks.2 LLS.out)
    have HM5 : Aside0 (∀ W, Rd W A5 (dig Num.W (AH * BH)).length (dig Num.W (AH * BH)) → Calls Try.prog 35 #[.slice A5 (dig Num.W (AH * BH)).length c5, .int .i64 (2 * (n : Int))] W (NewPost (dig Num.W (AH * BH * (Num.W ^ n * Num.W ^ n))) W)) := ⟨fun W hr => by
      have h := prod_moved A5 _ c5 _ (2 * (n : Int)) W hr C5.out (dig_inB Num.W_gt _) (by have := dig_len_of_lt lh; omega) (by omega)
      rwa [val_dig Num.W_gt, show (2 * (n : Int)).toNat = n + n by omega, Nat.pow_add] at h⟩
    have HM11 : Aside0 (∀ A c W, Rd W A (dig Num.W MID).length (dig Num.W MID) → (dig Num.W MID).length ≤ c → Calls Try.prog 35 #[.slice A (dig Num.W MID).length c, .int .i64 (n : Int)] W (NewPost (dig Num.W (MID * Num.W ^ n)) W)) := ⟨fun A c W hr hc => by
      have h := prod_moved A _ c _ (n : Int) W hr hc (dig_inB Num.W_gt _) (by have := dig_len_of_lt lm; omega) (by omega)
      rwa [val_dig Num.W_gt, Int.toNat_natCast] at h⟩
    have HKS := Aside0.mk hks
    have HMID := Aside0.mk hMID
    have h2n : IntKind.i64.wrap (2 * (n : Int)) = 2 * (n : Int) := by rw [IntKind.wrap_i64]; omega
    have hKB : 2 * M + 2 * n ≤ 1099511627776 := by omega
    have hKM : M - 1 ≤ 1099511627776 := by omega
    clear hks mul_lt lh ll ls lm lup pP pPP hMID
    go_wp2
    rename_i K hK
    have HEND : Aside0 (∀ (t0 t1 t2 t3 t4 t5 t6 t7 t9 t10 t11 t12 t16 t17 t18 t19 t20 t21 t22 t23 t24 t25 t26 t27 t28 t29 t30 t31 t32 t33 t34 t35 t36 t37 t38 t39 t40 t41 t42 t43 t44 t45 t46 t47 t48 t49 t50 t51 t52 t53 t54 t55 t56 t57 t58 t59 t60 t61 t62 t63 t64 t65 t66 t67 t68 t69 t70 t71 t72 t73 t74 t75 t76 t77 t78 t79 t80 t81 t82 t83 t84 t85 t86 t87 t88 t89 t90 t91 : Value) (A11 : Option Addr) (c11 : Nat) (wf : World), Rd wf A5 (dig Num.W (AH * BH)).length (dig Num.W (AH * BH)) → Rd wf A6 (dig Num.W (AL * BL)).length (dig Num.W (AL * BL)) → Rd wf A11 (dig Num.W MID).length (dig Num.W MID) → (dig Num.W MID).length ≤ c11 → Below w.heap.size w wf →
        K { tmps := #[t0, t1, t2, t3, t4, t5, t6, t7, .int .i64 (n : Int), t9, t10, t11, t12, .slice A5 (dig Num.W (AH * BH)).length c5, .slice A6 (dig Num.W (AL * BL)).length c6, .slice A11 (dig Num.W MID).length c11, t16, t17, t18, t19, t20, t21, t22, t23, t24, t25, t26, t27, t28, t29, t30, t31, t32, t33, t34, t35, t36, t37, t38, t39, t40, t41, t42, t43, t44, t45, t46, t47, t48, t49, t50, t51, t52, t53, t54, t55, t56, t57, t58, t59, t60, t61, t62, t63, t64, t65, t66, t67, t68, t69, t70, t71, t72, t73, t74, t75, t76, t77, t78, t79, t80, t81, t82, t83, t84, t85, t86, t87, t88, t89, t90, t91], defers := [] } wf) := ⟨by
      intro t0 t1 t2 t3 t4 t5 t6 t7 t9 t10 t11 t12 t16 t17 t18 t19 t20 t21 t22 t23 t24 t25 t26 t27 t28 t29 t30 t31 t32 t33 t34 t35 t36 t37 t38 t39 t40 t41 t42 t43 t44 t45 t46 t47 t48 t49 t50 t51 t52 t53 t54 t55 t56 t57 t58 t59 t60 t61 t62 t63 t64 t65 t66 t67 t68 t69 t70 t71 t72 t73 t74 t75 t76 t77 t78 t79 t80 t81 t82 t83 t84 t85 t86 t87 t88 t89 t90 t91 A11 c11 wf r5 r6 r11 h11 hbf
      refine hK _ _ ?_
      have S5 := Aside0.mk r5
      have S6 := Aside0.mk r6
      have S11 := Aside0.mk r11
      have SC := Aside0.mk h11
      have HBF := Aside0.mk hbf
      clear hK r5 r6 r11 h11 hbf
      go_wp2_with (first
        | ((go_at_call 35); (with_reducible refine (HM5.out _ S5.out).mono ?_); (rintro e w12 ⟨v, rfl, hv, hb⟩); (obtain ⟨A12, c12, rfl, hc, hr⟩ := hv.reads); (have R12 := Aside0.mk hr); (have C12 := Aside0.mk hc); (have HB12 := Aside0.mk hb); (clear hr hc hb hv))
        | ((go_at_call 35); (with_reducible refine (HM11.out _ _ _ (S11.out.later HB12.out) SC.out).mono ?_); (rintro e w13 ⟨v, rfl, hv, hb⟩); (obtain ⟨A13, c13, rfl, hc, hr⟩ := hv.reads); (have R13 := Aside0.mk hr); (have C13 := Aside0.mk hc); (have HB13 := Aside0.mk hb); (clear hr hc hb hv))
        | ((go_at_call 40); (with_reducible refine (sum_three A12 A13 A6 c12 c13 c6 _ _ _ _ _ _ _ (blk_new _ _) (R12.out.later (below_alloc HB13.out _)) C12.out (R13.out.later (below_alloc (Below.refl _ _) _)) C13.out (S6.out.later (below_alloc (below_then HB12.out HB13.out) _)) C6.out LX.out LY.out LZ.out hKB).mono ?_); (rintro e w14 ⟨v, rfl, hv, hb⟩); (have HV := Aside0.mk hv); (have HB14 := Aside0.mk (below_then (below_then HBF.out (below_alloc (below_then HB12.out HB13.out) _)) hb)); (clear hv hb)))
      refine bodyPost_ret (results_tmp rfl _ _ _) rfl ?_
      rw [← HKS.out.1]
      exact ⟨v, rfl, vw_older HV.out (by rw [World.size_alloc]; exact Nat.le_succ_of_le (below_then HBF.out (below_then HB12.out HB13.out)).size), HB14.out⟩⟩
    clear hK
    have T1 : Aside0 (Rd w5 A1 (dig Num.W AH).length (dig Num.W AH)) := ⟨R1.out.later (below_then HB4.out HB5.out)⟩
    have T2 : Aside0 (Rd w5 A2 (dig Num.W AL).length (dig Num.W AL)) := ⟨R2.out.later (below_then HB4.out HB5.out)⟩
    have T3 : Aside0 (Rd w5 B1 (dig Num.W BH).length (dig Num.W BH)) := ⟨R3.out.later (below_then HB4.out HB5.out)⟩
    have T4 : Aside0 (Rd w5 B2 (dig Num.W BL).length (dig Num.W BL)) := ⟨R4.out.later (below_then HB4.out HB5.out)⟩
    have T5 : Aside0 (Rd w5 A5 (dig Num.W (AH * BH)).length (dig Num.W (AH * BH))) := ⟨R5.out.later HB5.out⟩
    have T6 : Aside0 (Rd w5 A6 (dig Num.W (AL * BL)).length (dig Num.W (AL * BL))) := ⟨R6.out⟩
    have P0 := Aside0.mk (cell_later Q0.out (below_then HB4.out HB5.out))
    have P1 := Aside0.mk (cell_later Q1.out (below_then HB4.out HB5.out))
    have HBE := Aside0.mk (HB3.out.trans ((below_then HB4.out HB5.out).mono HB3.out.size))
    clear R1 R2 R3 R4 R5 R6 Q0 Q1 HB3 HB4 HB5 HEA HEB HM5 HM11 LX LY LZ HKS HVA HVB HP HQ HMM h2n
    have LQ := Aside0.mk (HMID.out ▸ rfl : (AH + AL) * (BH + BL) - (AH * BH + AL * BL) = MID)
    go_region_held3 (fun w' => w'.cell? ⟨w.heap.size + 1, 0, none⟩ = some (.func (.func 38) #[] #[.pointer (some ⟨w.heap.size, 0, none⟩)])) (first | (with_reducible exact P1.out) | with_reducible exact cell_later P1.out (by (repeat (with_reducible first | apply Below.refl | apply below_then' HB10.out | apply below_then' HB9.out | apply below_then' HB8.out | apply below_then' HB7.out | apply below_then' HB6.out | apply below_drew | apply below_alloc)); done))
      (first
        | ((go_at_call 40); (apply Go.Calls.mono); (with_reducible apply sum_two A1 A2 c1 c2 AH AL); (focus ((repeat (first | (with_reducible apply blk_below' HB10.out) | (with_reducible apply blk_below' HB9.out) | (with_reducible apply blk_below' HB8.out) | (with_reducible apply blk_below' HB7.out) | (with_reducible apply blk_below' HB6.out) | (with_reducible apply blk_drew) | ((with_reducible apply blk_new'); (simp; done)) | (with_reducible apply blk_alloc))); done)); (focus ((with_reducible apply Rd.later T1.out); (repeat (with_reducible first | apply Below.refl | apply below_then' HB10.out | apply below_then' HB9.out | apply below_then' HB8.out | apply below_then' HB7.out | apply below_then' HB6.out | apply below_drew | apply below_alloc)); done)); (exact HCAH.out); (focus ((with_reducible apply Rd.later T2.out); (repeat (with_reducible first | apply Below.refl | apply below_then' HB10.out | apply below_then' HB9.out | apply below_then' HB8.out | apply below_then' HB7.out | apply below_then' HB6.out | apply below_drew | apply below_alloc)); done)); (exact HCAL.out); (exact HLA.out.1); (exact HLA.out.2.1); (exact hKM); (rintro e w6 ⟨v, rfl, hv, hb⟩); (obtain ⟨A7, c7, rfl, hc, hr⟩ := hv.reads); (have R7 := Aside0.mk hr); (have C7 := Aside0.mk hc); (have HB6 := Aside0.mk hb); (clear hr hc hb hv))
        | ((go_at_call 40); (apply Go.Calls.mono); (with_reducible apply sum_two B1 B2 c3 c4 BH BL); (focus ((repeat (first | (with_reducible apply blk_below' HB10.out) | (with_reducible apply blk_below' HB9.out) | (with_reducible apply blk_below' HB8.out) | (with_reducible apply blk_below' HB7.out) | (with_reducible apply blk_below' HB6.out) | (with_reducible apply blk_drew) | ((with_reducible apply blk_new'); (simp; done)) | (with_reducible apply blk_alloc))); done)); (focus ((with_reducible apply Rd.later T3.out); (repeat (with_reducible first | apply Below.refl | apply below_then' HB10.out | apply below_then' HB9.out | apply below_then' HB8.out | apply below_then' HB7.out | apply below_then' HB6.out | apply below_drew | apply below_alloc)); done)); (exact HCBH.out); (focus ((with_reducible apply Rd.later T4.out); (repeat (with_reducible first | apply Below.refl | apply below_then' HB10.out | apply below_then' HB9.out | apply below_then' HB8.out | apply below_then' HB7.out | apply below_then' HB6.out | apply below_drew | apply below_alloc)); done)); (exact HCBL.out); (exact HLB.out.1); (exact HLB.out.2.1); (exact hKM); (rintro e w7 ⟨v, rfl, hv, hb⟩); (obtain ⟨A8, c8, rfl, hc, hr⟩ := hv.reads); (have R8 := Aside0.mk hr); (have C8 := Aside0.mk hc); (have HB7 := Aside0.mk hb); (clear hr hc hb hv))
        | ((go_at_call 38); (apply Go.Calls.mono); (with_reducible apply HT.out (AH + AL) (BH + BL) HLA.out.2.2 HLB.out.2.2 A7 A8 c7 c8); (focus ((with_reducible apply Rd.later R7.out); (repeat (with_reducible first | apply Below.refl | apply below_then' HB10.out | apply below_then' HB9.out | apply below_then' HB8.out | apply below_then' HB7.out | apply below_then' HB6.out | apply below_drew | apply below_alloc)); done)); (focus ((with_reducible apply Rd.later R8.out); (repeat (with_reducible first | apply Below.refl | apply below_then' HB10.out | apply below_then' HB9.out | apply below_then' HB8.out | apply below_then' HB7.out | apply below_then' HB6.out | apply below_drew | apply below_alloc)); done)); (exact C7.out); (exact C8.out); (focus ((with_reducible apply cell_later P0.out); (repeat (with_reducible first | apply Below.refl | apply below_then' HB10.out | apply below_then' HB9.out | apply below_then' HB8.out | apply below_then' HB7.out | apply below_then' HB6.out | apply below_drew | apply below_alloc)); done)); (rintro e w8 ⟨v, rfl, hv, hb⟩); (obtain ⟨A9, c9, rfl, hc, hr⟩ := hv.reads); (have R9 := Aside0.mk hr); (have C9 := Aside0.mk hc); (have HB8 := Aside0.mk hb); (clear hr hc hb hv))
        | ((go_at_call 40); (apply Go.Calls.mono); (with_reducible apply sum_two A5 A6 c5 c6 (AH * BH) (AL * BL)); (focus ((repeat (first | (with_reducible apply blk_below' HB10.out) | (with_reducible apply blk_below' HB9.out) | (with_reducible apply blk_below' HB8.out) | (with_reducible apply blk_below' HB7.out) | (with_reducible apply blk_below' HB6.out) | (with_reducible apply blk_drew) | ((with_reducible apply blk_new'); (simp; done)) | (with_reducible apply blk_alloc))); done)); (focus ((with_reducible apply Rd.later T5.out); (repeat (with_reducible first | apply Below.refl | apply below_then' HB10.out | apply below_then' HB9.out | apply below_then' HB8.out | apply below_then' HB7.out | apply below_then' HB6.out | apply below_drew | apply below_alloc)); done)); (exact C5.out); (focus ((with_reducible apply Rd.later T6.out); (repeat (with_reducible first | apply Below.refl | apply below_then' HB10.out | apply below_then' HB9.out | apply below_then' HB8.out | apply below_then' HB7.out | apply below_then' HB6.out | apply below_drew | apply below_alloc)); done)); (exact C6.out); (exact LLH.out); (exact LLL.out); (exact hKB); (rintro e w9 ⟨v, rfl, hv, hb⟩); (obtain ⟨A10, c10, rfl, hc, hr⟩ := hv.reads); (have R10 := Aside0.mk hr); (have C10 := Aside0.mk hc); (have HB9 := Aside0.mk hb); (clear hr hc hb hv))
        | ((go_at_call 39); (apply Go.Calls.mono); (with_reducible apply sub_dig A9 A10 c9 c10); (focus ((with_reducible apply Rd.later R9.out); (repeat (with_reducible first | apply Below.refl | apply below_then' HB10.out | apply below_then' HB9.out | apply below_then' HB8.out | apply below_then' HB7.out | apply below_then' HB6.out | apply below_drew | apply below_alloc)); done)); (focus ((with_reducible apply Rd.later R10.out); (repeat (with_reducible first | apply Below.refl | apply below_then' HB10.out | apply below_then' HB9.out | apply below_then' HB8.out | apply below_then' HB7.out | apply below_then' HB6.out | apply below_drew | apply below_alloc)); done)); (exact LLS.out); (exact LLT.out); (exact hKB); (exact HLE.out); (rintro e w10 ⟨⟨v, rfl, hv⟩, hb⟩); (rw [LQ.out] at hv); (obtain ⟨A11, c11, rfl, hc, hr⟩ := hv.reads); (have R11 := Aside0.mk hr); (have C11 := Aside0.mk hc); (have HB10 := Aside0.mk hb); (clear hr hc hb hv)))
    all_goals
      have hbz : Below w5.heap.size w5 w10 := (by (repeat (with_reducible first | apply Below.refl | apply below_then' HB10.out | apply below_then' HB9.out | apply below_then' HB8.out | apply below_then' HB7.out | apply below_then' HB6.out | apply below_drew | apply below_alloc)); done)
      exact HEND.out _ _ _ _ _ _ _ _ _ _ _ _ _ _ _ _ _ _ _ _ _ _ _ _ _ _ _ _ _ _ _ _ _ _ _ _ _ _ _ _ _ _ _ _ _ _ _ _ _ _ _ _ _ _ _ _ _ _ _ _ _ _ _ _ _ _ _ _ _ _ _ _ _ _ _ _ _ _ _ _ _ _ _ _ _ _ _ _ A11 c11 w10 (T5.out.later hbz) (T6.out.later hbz) R11.out C11.out (HBE.out.trans (hbz.mono HBE.out.size))
theorem kara_tells (least : Int) (k : Nat) : KaraTells least k := by
  induction k using Nat.strongRecOn with
  | _ k ih => exact kara_step least k ih
end Go.Proofs.Ytgoglfojjpibnaa.Hand
