/- prod.sum by hand: the row of the sum of the values; new memory alone is written. Conditions: words, not too many. -/
import Derived.Test.YtgoglfojjpibnaaHProdB
namespace Go.Proofs.Ytgoglfojjpibnaa.Hand
open Go.RowKit Go.Proofs.YtgoglfojjpibnaaW.PrintWords Go.Proofs.YtgoglfojjpibnaaW.PrintMore Go.Proofs.Ytgoglfojjpibnaa.Num
set_option linter.unusedVariables false
set_option linter.unusedSimpArgs false
attribute [local go_sem] Oper.semAt_some max2_int min2_int max_two min_two

/-- A number that is given to sum: where it lies, and its words. -/
structure Part where
  A : Option Addr
  c : Nat
  l : List Int
def Part.v (p : Part) : Value := .slice p.A p.l.length p.c
structure Part.Ok (p : Part) (w : World) : Prop where
  rd : Rd w p.A p.l.length p.l
  cap : p.l.length ≤ p.c
  inb : InB W p.l
  lim : p.l.length ≤ 17592186044400
def total : List Part → Nat
  | [] => 0
  | p :: ps => val W p.l + total ps
theorem total_snoc (ps : List Part) (p : Part) : total (ps ++ [p]) = total ps + val W p.l := by
  induction ps with
  | nil => simp [total]
  | cons q ps ih => simp only [List.cons_append, total, ih]; omega
theorem total_take_le (ps : List Part) (k : Nat) : total (ps.take k) ≤ total ps := by
  induction ps generalizing k with
  | nil => simp
  | cons q ps ih =>
    cases k with
    | zero => simp [total]
    | succ k => simp only [List.take_succ_cons, total]; have := ih k; omega
theorem cell_later {w w' : World} {p : Addr} {v : Value} (h : w.cell? p = some v) (hb : Below w.heap.size w w') : w'.cell? p = some v := by
  rw [hb.cell (p := p) (World.block_lt_of_cell? w _ h)]
  exact h
set_option maxRecDepth 100000 in
set_option maxHeartbeats 2000000 in
theorem prod_sum (ad : Addr) (ps : List Part) (m c : Nat) (w : World) (hm : ps.length = m) (hm2 : m ≤ 1000000) (hc : ∀ j (h : j < ps.length), w.cell? (ad.add j) = some (ps[j]).v) (hok : ∀ p, p ∈ ps → p.Ok w) (L : Nat) (hL : L ≤ 17592186044400) (ht : total ps < Num.W ^ L) :
    Calls Try.prog 40 #[.slice (some ad) m c] w (NewPost (dig Num.W (total ps)) w) := by
  have HC := Aside0.mk hc
  have HO := Aside0.mk hok
  have HT := Aside0.mk ht
  have HM := Aside0.mk hm
  clear hc hok ht hm
  go_enter Try.func40, Try.ntmps40
  go_wp2
  go_loopw [3, 8] (fun ov iv wr => ∃ (k : Nat) (A : Option Addr) (n c : Nat), k ≤ m ∧ iv = .int .i64 k ∧ ov = .slice A n c ∧ n = (dig Num.W (total (ps.take k))).length ∧ Aside0 (Vw wr w.heap.size (fun j => w.heap.size ≤ j) (.slice A n c) (dig Num.W (total (ps.take k)))) ∧ Aside0 (Below w.heap.size w wr)) (fun _ iv _ => m - (intOf iv).toNat)
  case atStart => exact ⟨0, none, 0, 0, by omega, rfl, rfl, by rw [List.take_zero, total, dig_zero]; rfl, ⟨by rw [List.take_zero, total, dig_zero]; exact Vw.nil _ _ _⟩, ⟨Below.refl _ _⟩⟩
  case round =>
    obtain ⟨k, A, n, cc, hk, rfl, rfl, hn, HV, HB⟩ := hrel
    have HN := Aside0.mk hn
    by_cases hlt : k < m
    · have hkl : k < ps.length := by rw [HM.out]; exact hlt
      have hck := cell_later (HC.out k hkl) HB.out
      have hpo := HO.out ps[k] (List.getElem_mem hkl)
      have hts : ps.take (k + 1) = ps.take k ++ [ps[k]] := by rw [List.take_add_one, List.getElem?_eq_getElem hkl]; rfl
      have htt : total (ps.take (k + 1)) = total (ps.take k) + val Num.W (ps[k]).l := by rw [hts, total_snoc]
      have hnl : n ≤ 17592186044400 := by rw [HN.out]; exact Nat.le_trans (dig_len_of_lt (Nat.lt_of_le_of_lt (total_take_le ps k) HT.out)) hL
      obtain ⟨hnn, hcc, hfv⟩ := HV.out.of
      have hrv : Rd wr A n (dig Num.W (total (ps.take k))) := by
        have := Kd.F_now hfv
        exact Rd.of_C this
      have had := nat_add A (ps[k]).A n (ps[k]).l.length cc (ps[k]).c _ _ wr hrv (hpo.rd.later HB.out) (dig_inB Num.W_gt _) hpo.inb hnl hpo.lim
      rw [val_dig Num.W_gt, ← htt] at had
      have HAD := Aside0.mk had
      unfold Part.v at hck
      generalize (ps[k]).A = pA at *
      generalize (ps[k]).c = pc at *
      generalize (ps[k]).l.length = pn at *
      clear had hts htt hrv hfv hpo hn hnn hnl hcc hkl
      go_wp2_with ((go_at_call 34); (with_reducible refine HAD.out.mono ?_); (rintro e w1 ⟨v, rfl, hv, hb1⟩); (obtain ⟨A1, c1, rfl, hc1, hr1⟩ := hv.reads); (have HV1 := Aside0.mk hv); (have HB1 := Aside0.mk hb1); (clear hv hb1 hr1 hc1))
      refine ⟨⟨k + 1, _, _, _, by omega, by go_num, rfl, rfl, ⟨vw_older HV1.out HB.out.size⟩, ⟨below_then HB.out HB1.out⟩⟩, by simp [intOf]; omega⟩
    · obtain rfl : k = m := by omega
      have hV := HV.out
      rw [← HM.out, List.take_length] at hV
      have HV1 := Aside0.mk hV
      clear hV hn
      go_wp2
      refine bodyPost_ret (results_tmp rfl _ _ _) rfl ?_
      exact ⟨_, rfl, HV1.out, HB.out⟩
theorem sum_two (A1 A2 : Option Addr) (c1 c2 x y b K : Nat) (t : TypeId) (w : World) (hb : w.heap[b]? = some (.cells #[.slice A1 (dig Num.W x).length c1, .slice A2 (dig Num.W y).length c2] t (0, 0)))
    (r1 : Rd w A1 (dig Num.W x).length (dig Num.W x)) (h1 : (dig Num.W x).length ≤ c1) (r2 : Rd w A2 (dig Num.W y).length (dig Num.W y)) (h2 : (dig Num.W y).length ≤ c2) (hx : x < Num.W ^ K) (hy : y < Num.W ^ K) (hK : K ≤ 1099511627776) :
    Calls Try.prog 40 #[.slice (some ⟨b, 0, none⟩) 2 2] w (NewPost (dig Num.W (x + y)) w) := by
  have lx := dig_len_of_lt hx
  have ly := dig_len_of_lt hy
  have hp := Nat.pow_pos (n := K) Num.W_pos
  have h := prod_sum ⟨b, 0, none⟩ [⟨A1, c1, dig Num.W x⟩, ⟨A2, c2, dig Num.W y⟩] 2 2 w rfl (by decide) (fun j hj => by
    rw [Addr.add_lit, blk_cell hb]
    match j, hj with
    | 0, _ => rfl
    | 1, _ => rfl) (fun p hp => by
    rcases List.mem_cons.1 hp with rfl | hp
    · exact ⟨r1, h1, dig_inB Num.W_gt _, show (dig Num.W x).length ≤ _ by omega⟩
    · rcases List.mem_cons.1 hp with rfl | hp
      · exact ⟨r2, h2, dig_inB Num.W_gt _, show (dig Num.W y).length ≤ _ by omega⟩
      · cases hp) (K + 1) (by omega) (by
    have h3 : 2 * Num.W ^ K ≤ Num.W ^ K * Num.W := by rw [Nat.mul_comm]; exact Nat.mul_le_mul_left _ (by decide)
    simp only [total, val_dig Num.W_gt, Nat.pow_succ]
    omega)
  simpa only [total, val_dig Num.W_gt, Nat.add_zero] using h
theorem sum_three (A1 A2 A3 : Option Addr) (c1 c2 c3 x y z b K : Nat) (t : TypeId) (w : World) (hb : w.heap[b]? = some (.cells #[.slice A1 (dig Num.W x).length c1, .slice A2 (dig Num.W y).length c2, .slice A3 (dig Num.W z).length c3] t (0, 0)))
    (r1 : Rd w A1 (dig Num.W x).length (dig Num.W x)) (h1 : (dig Num.W x).length ≤ c1) (r2 : Rd w A2 (dig Num.W y).length (dig Num.W y)) (h2 : (dig Num.W y).length ≤ c2) (r3 : Rd w A3 (dig Num.W z).length (dig Num.W z)) (h3 : (dig Num.W z).length ≤ c3)
    (hx : x < Num.W ^ K) (hy : y < Num.W ^ K) (hz : z < Num.W ^ K) (hK : K ≤ 1099511627776) :
    Calls Try.prog 40 #[.slice (some ⟨b, 0, none⟩) 3 3] w (NewPost (dig Num.W (x + (y + z))) w) := by
  have lx := dig_len_of_lt hx
  have ly := dig_len_of_lt hy
  have lz := dig_len_of_lt hz
  have hp := Nat.pow_pos (n := K) Num.W_pos
  have h := prod_sum ⟨b, 0, none⟩ [⟨A1, c1, dig Num.W x⟩, ⟨A2, c2, dig Num.W y⟩, ⟨A3, c3, dig Num.W z⟩] 3 3 w rfl (by decide) (fun j hj => by
    rw [Addr.add_lit, blk_cell hb]
    match j, hj with
    | 0, _ => rfl
    | 1, _ => rfl
    | 2, _ => rfl) (fun p hp => by
    rcases List.mem_cons.1 hp with rfl | hp
    · exact ⟨r1, h1, dig_inB Num.W_gt _, show (dig Num.W x).length ≤ _ by omega⟩
    · rcases List.mem_cons.1 hp with rfl | hp
      · exact ⟨r2, h2, dig_inB Num.W_gt _, show (dig Num.W y).length ≤ _ by omega⟩
      · rcases List.mem_cons.1 hp with rfl | hp
        · exact ⟨r3, h3, dig_inB Num.W_gt _, show (dig Num.W z).length ≤ _ by omega⟩
        · cases hp) (K + 1) (by omega) (by
    have h3 : 3 * Num.W ^ K ≤ Num.W ^ K * Num.W := by rw [Nat.mul_comm]; exact Nat.mul_le_mul_left _ (by decide)
    simp only [total, val_dig Num.W_gt, Nat.pow_succ]
    omega)
  simpa only [total, val_dig Num.W_gt, Nat.add_zero] using h
/-- A difference of rows of numbers. -/
theorem sub_dig (A1 A2 : Option Addr) (c1 c2 x y K : Nat) (w : World) (r1 : Rd w A1 (dig Num.W x).length (dig Num.W x)) (r2 : Rd w A2 (dig Num.W y).length (dig Num.W y)) (hx : x < Num.W ^ K) (hy : y < Num.W ^ K) (hK : K ≤ 1099511627776) (hxy : y ≤ x) :
    Calls Try.prog 39 #[.slice A1 (dig Num.W x).length c1, .slice A2 (dig Num.W y).length c2] w fun e w' =>
      (∃ v : Value, e = .returned (.tuple #[v, .int .i64 0]) ∧ Vw w' w.heap.size (fun k => w.heap.size ≤ k) v (dig Num.W (x - y))) ∧ Below w.heap.size w w' := by
  have lx := dig_len_of_lt hx
  have ly := dig_len_of_lt hy
  have h := nat_sub A1 A2 _ _ c1 c2 _ _ w r1 r2 (dig_inB Num.W_gt _) (dig_inB Num.W_gt _) (by omega) (by omega)
  rw [val_dig Num.W_gt, val_dig Num.W_gt] at h
  refine h.mono ?_
  rintro e w' ⟨⟨v, rfl, hv⟩, hb⟩
  rw [if_neg (by omega)] at hv
  rw [if_neg (by omega)]
  exact ⟨⟨v, rfl, hv⟩, hb⟩
theorem blk_new' {w : World} {o : Obj} {n : Nat} (h : n = w.heap.size) : (w.alloc o).heap[n]? = some o := by subst h; exact blk_new _ _
/-- A number's halves, and their sum, are shorter than the number. -/
theorem half_lt {a M n : Nat} (ha : a < W ^ M) (hM : 4 ≤ M) (hn : n = (M + 1) / 2) : a / W ^ n < W ^ (M - 1) ∧ a % W ^ n < W ^ (M - 1) ∧ a / W ^ n + a % W ^ n < W ^ (M - 1) := by
  have hp := Nat.pow_pos (n := n) W_pos
  have h1 : a / W ^ n < W ^ n := by
    have h2 : a / W ^ n < W ^ (M - n) := Nat.div_lt_of_lt_mul (by rw [← Nat.pow_add, show n + (M - n) = M by omega]; exact ha)
    exact Nat.lt_of_lt_of_le h2 (Nat.pow_le_pow_right W_pos (by omega))
  have h2 := Nat.mod_lt a hp
  have h3 : W ^ (n + 1) ≤ W ^ (M - 1) := Nat.pow_le_pow_right W_pos (by omega)
  rw [Nat.pow_succ] at h3
  have h4 : 2 * W ^ n ≤ W ^ n * W := by rw [Nat.mul_comm]; exact Nat.mul_le_mul_left _ (by decide)
  omega
/-- Karatsuba's sum. -/
theorem kara_sum (ah al bh bl P : Nat) : ah * bh * (P * P) + (((ah + al) * (bh + bl) - (ah * bh + al * bl)) * P + al * bl) = (al + P * ah) * (bl + P * bh) ∧ ah * bh + al * bl ≤ (ah + al) * (bh + bl) := by
  have e : (ah + al) * (bh + bl) = ah * bh + al * bl + (ah * bl + al * bh) := by rw [Nat.add_mul, Nat.mul_add, Nat.mul_add]; omega
  refine ⟨?_, by rw [e]; omega⟩
  have e0 : (al + P * ah) * (bl + P * bh) = al * bl + al * (P * bh) + (P * ah * bl + P * ah * (P * bh)) := by rw [Nat.add_mul, Nat.mul_add, Nat.mul_add]
  rw [e, Nat.add_sub_cancel_left, e0]
  have e1 : P * ah * bl = ah * bl * P := by rw [Nat.mul_assoc, Nat.mul_comm]
  have e2 : al * (P * bh) = al * bh * P := by rw [Nat.mul_comm P, Nat.mul_assoc]
  have e3 : P * ah * (P * bh) = ah * bh * (P * P) := by rw [Nat.mul_mul_mul_comm, Nat.mul_comm]
  rw [e1, e2, e3, Nat.add_mul]
  omega
end Go.Proofs.Ytgoglfojjpibnaa.Hand
