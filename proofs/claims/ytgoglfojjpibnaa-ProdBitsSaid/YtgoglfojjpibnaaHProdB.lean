/- prod.School by hand: the row of the product of the values; new memory alone is written. Conditions: words, not too many. -/
import Derived.Test.YtgoglfojjpibnaaHProdA
namespace Go.Proofs.Ytgoglfojjpibnaa.Hand
open Go.RowKit Go.Proofs.YtgoglfojjpibnaaW.PrintWords Go.Proofs.YtgoglfojjpibnaaW.PrintMore Go.Proofs.Ytgoglfojjpibnaa.Num
set_option linter.unusedVariables false
set_option linter.unusedSimpArgs false
attribute [local go_sem] Oper.semAt_some max2_int min2_int max_two min_two

/-- What has been made, i words of the one number being done, and k of the other with the next. -/
structure SchInv (a b : List Int) (i k : Nat) (row : List Int) (c : Int) : Prop where
  len : row.length = a.length + b.length
  inb : InB W row
  c0 : Wd c
  zero : ∀ j, i + b.length ≤ j → row.getD j 0 = 0
  val : val W row + W ^ (i + k) * c.toNat = val W (a.take i) * val W b + W ^ i * ((a.getD i 0).toNat * val W (b.take k))
theorem SchInv.first (a b : List Int) : SchInv a b 0 0 (List.replicate (a.length + b.length) 0) 0 :=
  ⟨by simp, inB_replicate W_pos _, by unfold Wd; omega, fun j _ => by rw [List.getD_eq_getElem?_getD, List.getElem?_replicate]; split <;> rfl, by simp [val_replicate, Num.val]⟩
def sOut (x y o c : Int) : Int := sumLo (sumLo (mulLo x y) o 0) c 0
def cOut (x y o c : Int) : Int := mulHi x y + sumHi (mulLo x y) o 0 + sumHi (sumLo (mulLo x y) o 0) c 0
theorem sch_carry {y x o c : Int} (hy : Wd y) (hx : Wd x) (ho : Wd o) (hc : Wd c) : Wd (cOut y x o c) ∧ Wd (sOut y x o c) ∧ sOut y x o c + 18446744073709551616 * cOut y x o c = y * x + o + c ∧ Wd (mulHi y x + sumHi (mulLo y x) o 0) := by
  have h1 := mul_eq y x
  have h2 := sum_eq (mulLo y x) o 0
  have h3 := sumLo_wd (mulLo y x) o 0
  have h4 := mulHi_wd hy hx
  have h5 := sumHi_le (mulLo_wd y x) ho (Int.le_refl 0) (by omega : (0 : Int) ≤ 1)
  have h7 := sum_eq (sumLo (mulLo y x) o 0) c 0
  have h8 := sumLo_wd (sumLo (mulLo y x) o 0) c 0
  have h9 := sumHi_le h3 hc (Int.le_refl 0) (by omega : (0 : Int) ≤ 1)
  have h6 : y * x ≤ 18446744073709551615 * 18446744073709551615 := by
    obtain ⟨y, rfl⟩ := Int.eq_ofNat_of_zero_le hy.1
    obtain ⟨x, rfl⟩ := Int.eq_ofNat_of_zero_le hx.1
    have := Nat.mul_le_mul (show y ≤ 18446744073709551615 by have := hy.2; omega) (show x ≤ 18446744073709551615 by have := hx.2; omega)
    exact (Int.ofNat_le.2 this : ((y * x : Nat) : Int) ≤ ((18446744073709551615 * 18446744073709551615 : Nat) : Int))
  unfold Wd sOut cOut at *
  generalize mulHi y x = p at *
  generalize mulLo y x = q at *
  generalize sumHi q o 0 = r at *
  generalize sumLo q o 0 = t at *
  generalize sumHi t c 0 = u at *
  generalize sumLo t c 0 = v at *
  generalize y * x = z at *
  omega
theorem getD_set_ne (l : List Int) (i j : Nat) (x : Int) (h : i ≠ j) : (l.set i x).getD j 0 = l.getD j 0 := by
  rw [List.getD_eq_getElem?_getD, List.getD_eq_getElem?_getD, List.getElem?_set_ne h]
theorem sch_step {p o r s c c' y x A B V V' : Nat} (hv : V + p * c = A + B) (hs : V' + p * o = V + p * s) (he : s + W * c' = y * x + o + c) : V' + p * W * c' = A + (B + p * (y * x)) := by
  have h1 : p * s + p * W * c' = p * (y * x) + p * o + p * c := by rw [Nat.mul_assoc, ← Nat.mul_add, he, Nat.mul_add, Nat.mul_add]
  generalize p * W * c' = e1 at *
  generalize p * (y * x) = e2 at *
  generalize p * s = e3 at *
  generalize p * o = e4 at *
  generalize p * c = e5 at *
  omega
theorem SchInv.snoc {a b : List Int} {i k : Nat} {row : List Int} {c : Int} (h : SchInv a b i k row c) (hia : InB W a) (hib : InB W b) (hi : i < a.length) (hk : k < b.length) :
    SchInv a b i (k + 1) (row.set (i + k) (sOut (a.getD i 0) (b.getD k 0) (row.getD (i + k) 0) c)) (cOut (a.getD i 0) (b.getD k 0) (row.getD (i + k) 0) c) := by
  have hy : Wd (a.getD i 0) := inB_getD W_pos hia i
  have hx : Wd (b.getD k 0) := inB_getD W_pos hib k
  have ho : Wd (row.getD (i + k) 0) := inB_getD W_pos h.inb (i + k)
  obtain ⟨hw, hw2, he, _⟩ := sch_carry hy hx ho h.c0
  refine ⟨by simp [h.len], inB_set h.inb _ (wd_inb hw2), hw, fun j hj => by rw [getD_set_ne _ _ _ _ (by omega)]; exact h.zero j hj, ?_⟩
  have hs := val_set W row (i + k) (sOut (a.getD i 0) (b.getD k 0) (row.getD (i + k) 0) c) (by rw [h.len]; omega)
  have hv := h.val
  have hc := h.c0
  have ht := val_take_succ W b k
  generalize sOut (a.getD i 0) (b.getD k 0) (row.getD (i + k) 0) c = s at *
  generalize cOut (a.getD i 0) (b.getD k 0) (row.getD (i + k) 0) c = c' at *
  generalize row.getD (i + k) 0 = o at *
  generalize a.getD i 0 = y at *
  generalize b.getD k 0 = x at *
  obtain ⟨s, rfl⟩ := Int.eq_ofNat_of_zero_le hw2.1
  obtain ⟨c', rfl⟩ := Int.eq_ofNat_of_zero_le hw.1
  obtain ⟨o, rfl⟩ := Int.eq_ofNat_of_zero_le ho.1
  obtain ⟨x, rfl⟩ := Int.eq_ofNat_of_zero_le hx.1
  obtain ⟨y, rfl⟩ := Int.eq_ofNat_of_zero_le hy.1
  obtain ⟨c, rfl⟩ := Int.eq_ofNat_of_zero_le hc.1
  simp only [Int.toNat_natCast] at *
  have he' : s + W * c' = y * x + o + c := Int.ofNat_inj.1 (show ((s + W * c' : Nat) : Int) = ((y * x + o + c : Nat) : Int) from he)
  have h1 := sch_step (r := 0) hv hs he'
  rw [show i + (k + 1) = i + k + 1 by omega, Nat.pow_succ, h1, ht]
  congr 1
  rw [Nat.pow_add, Nat.mul_add, Nat.mul_add]
  congr 1
  rw [Nat.mul_assoc]
  congr 1
  rw [← Nat.mul_assoc, ← Nat.mul_assoc, Nat.mul_comm y (W ^ k)]
theorem SchInv.next {a b : List Int} {i : Nat} {row : List Int} {c : Int} (h : SchInv a b i b.length row c) (hi : i < a.length) :
    SchInv a b (i + 1) 0 (row.set (i + b.length) c) 0 := by
  have hs := val_set W row (i + b.length) c (by rw [h.len]; omega)
  have hv := h.val
  rw [h.zero _ (Nat.le_refl _)] at hs
  refine ⟨by simp [h.len], inB_set h.inb _ (wd_inb h.c0), by unfold Wd; omega, fun j hj => by rw [getD_set_ne _ _ _ _ (by omega)]; exact h.zero j (by omega), ?_⟩
  rw [List.take_length] at hv
  rw [List.take_zero, show (0 : Int).toNat = 0 from rfl, Nat.mul_zero, Nat.add_zero, val_take_succ]
  rw [show Int.toNat 0 = 0 from rfl, Nat.mul_zero, Nat.add_zero] at hs
  rw [hs, hv, Nat.add_mul]
  simp [Num.val, Nat.mul_assoc]
theorem SchInv.done {a b : List Int} {row : List Int} {c : Int} (h : SchInv a b a.length 0 row c) (hc : c = 0) : Num.val W row = Num.val W a * Num.val W b := by
  have hv := h.val
  subst hc
  rw [List.take_length, List.take_zero] at hv
  simpa [Num.val] using hv
set_option maxRecDepth 100000 in
set_option maxHeartbeats 4000000 in
theorem prod_school (A B : Option Addr) (la lb ca cb : Nat) (a b : List Int) (w : World) (ha : Rd w A la a) (hb : Rd w B lb b) (hia : InB Num.W a) (hib : InB Num.W b) (hna : la ≤ 4294967296) (hnb : lb ≤ 4294967296) :
    Calls Try.prog 15 #[.slice A la ca, .slice B lb cb] w (NewPost (dig Num.W (val Num.W a * val Num.W b)) w) := by
  have hmk := fun W => run_make_len (la + lb) (by omega) W
  have hmk' : ∀ W : World, (Instr.makeSlice 22 (.int .i64 ((la : Int) + (lb : Int))) (.int .i64 ((la : Int) + (lb : Int)))).run Try.prog W = .ok (.slice (some ⟨W.heap.size, 0, none⟩) (la + lb) (la + lb)) (W.alloc (.cells (madeCells #[.int .u64 0] (la + lb)) 38)) := hmk
  have hal : a.length = la := ha.1
  have hbl : b.length = lb := hb.1
  have hb0 : Below w.heap.size w (w.alloc (.cells (madeCells #[.int .u64 0] (la + lb)) 38)) := below_alloc (Below.refl _ _) _
  have hr0 : Row64 (w.alloc (.cells (madeCells #[.int .u64 0] (la + lb)) 38)) w.heap.size (List.replicate (a.length + b.length) 0) := by rw [hal, hbl]; exact Row64.made _
  have HA := Aside0.mk ha
  have HB := Aside0.mk hb
  have HB0 := Aside0.mk hb0
  have HR0 := Aside0.mk hr0
  have HAL := Aside0.mk hal
  have HBL := Aside0.mk hbl
  clear ha hb hb0 hr0 hal hbl hmk
  go_enter Try.func15, Try.ntmps15
  go_wp2
  go_loopw [22] (fun iv wr => ∃ (i : Nat) (row : List Int), i ≤ la ∧ iv = .int .i64 i ∧ Aside0 (Row64 wr w.heap.size row) ∧ Aside0 (SchInv a b i 0 row 0) ∧ Aside0 (Below w.heap.size w wr)) (fun iv _ => la - (intOf iv).toNat)
  case atStart => exact ⟨0, _, by omega, rfl, HR0, ⟨SchInv.first a b⟩, HB0⟩
  case round =>
    obtain ⟨i, row, hi, rfl, HR, HI, HW⟩ := hrel
    by_cases hlt : i < la
    · obtain ⟨ad, rfl, hcA⟩ := HA.out.2.2 (by omega)
      go_wp2
      go_loopw [7, 27] (fun cv kv wi => ∃ (k : Nat) (row : List Int) (c : Int), k ≤ lb ∧ kv = .int .i64 k ∧ cv = .int .u64 c ∧ Aside0 (Row64 wi w.heap.size row) ∧ Aside0 (SchInv a b i k row c) ∧ Aside0 (Below w.heap.size w wi)) (fun _ kv _ => lb - (intOf kv).toNat)
      case atStart => exact ⟨0, row, 0, by omega, rfl, rfl, HR, HI, HW⟩
      case round =>
        clear HR HI HW row hcA
        obtain ⟨k, row, c, hk, rfl, rfl, HR, HI, HW⟩ := hrel
        have hlen : row.length = la + lb := by rw [HI.out.len, HAL.out, HBL.out]
        by_cases hlk : k < lb
        · obtain ⟨bd, rfl, hcB⟩ := (HB.out.later (w' := wr.drew) HW.out.drew).2.2 (by omega)
          have qb := hcB k hlk
          obtain ⟨ad', e, hcA⟩ := (HA.out.later (w' := wr.drew) HW.out.drew).2.2 (by omega)
          cases e
          have qa := hcA i hlt
          have fr : wr.drew.frozen? ⟨w.heap.size, i + k, none⟩ = false := blk_frozen (w := wr) HR.out (i + k)
          have qr : wr.drew.cell? ⟨w.heap.size, i + k, none⟩ = some (.int .u64 (row.getD (i + k) 0)) := (blk_cell (w := wr) HR.out (i + k)).trans (nums_at row (i + k) (by omega))
          have hnx := HI.out.snoc hia hib (by rw [HAL.out]; exact hlt) (by rw [HBL.out]; exact hlk)
          have hst := (HR.out.set (i + k) (sOut (a.getD i 0) (b.getD k 0) (row.getD (i + k) 0) c))
          have hx : Wd (a.getD i 0) := inB_getD Num.W_pos hia i
          have hy : Wd (b.getD k 0) := inB_getD Num.W_pos hib k
          have ho : Wd (row.getD (i + k) 0) := inB_getD Num.W_pos HI.out.inb (i + k)
          have hc := HI.out.c0
          have HNX := Aside0.mk hnx
          have HST := Aside0.mk hst
          generalize a.getD i 0 = x at *
          generalize b.getD k 0 = y at *
          generalize row.getD (i + k) 0 = o at *
          have hm1 := mulLo_wd x y
          have hm2 := sumLo_wd (mulLo x y) o 0
          have hcar := sch_carry hx hy ho hc
          have z1 := hcar.1
          have z2 := hcar.2.2.2
          unfold Wd cOut at z1
          unfold Wd at z2
          have z3 := z1.1
          have z4 := z1.2
          have z5 := z2.1
          have z6 := z2.2
          have q0 : (0 : Int) ≤ 0 := Int.le_refl _
          have q1 : (0 : Int) ≤ 1 := by decide
          have hik : IntKind.i64.wrap ((i : Int) + (k : Int)) = (i : Int) + (k : Int) := by rw [IntKind.wrap_i64]; omega
          clear hcA hcB hnx hst z1 z2 hcar hlen
          go_wp2
          go_region_held3 (fun w' => w'.cell? (ad.add i) = some (.int .u64 x) ∧ w'.cell? (bd.add k) = some (.int .u64 y)) (go_keep) (((go_at_call 31); (with_reducible refine (word_mul _ _ hx hy _).mono ?_); (rintro e w' ⟨rfl, rfl⟩)))
          go_wp2_with (first | ((go_at_call 32); (with_reducible refine (word_add _ _ _ hm1 ho q0 q1 _).mono ?_); (rintro e w' ⟨rfl, rfl⟩)) | ((go_at_call 32); (with_reducible refine (word_add _ _ _ hm2 hc q0 q1 _).mono ?_); (rintro e w' ⟨rfl, rfl⟩)))
          exact ⟨⟨k + 1, _, _, by omega, by go_num, rfl, HST, HNX, ⟨(HW.out.setCell (p := ⟨w.heap.size, i + k, none⟩) (Nat.le_refl _) _).drew⟩⟩, by simp [intOf]; omega⟩
        · obtain rfl : k = lb := by omega
          have fr : wr.frozen? ⟨w.heap.size, i + k, none⟩ = false := blk_frozen (w := wr) HR.out (i + k)
          have hnx := HI.out
          rw [← HBL.out] at hnx
          have hnx := hnx.next (by rw [HAL.out]; exact hlt)
          have qr : wr.cell? ⟨w.heap.size, i + k, none⟩ = some (.int .u64 (row.getD (i + k) 0)) := (blk_cell (w := wr) HR.out (i + k)).trans (nums_at row (i + k) (by omega))
          have hst := HR.out.set (i + k) c
          rw [HBL.out] at hnx
          have HNX := Aside0.mk hnx
          have HST := Aside0.mk hst
          have hik : IntKind.i64.wrap ((i : Int) + (k : Int)) = (i : Int) + (k : Int) := by rw [IntKind.wrap_i64]; omega
          clear hnx hst hlen
          go_wp2
          exact ⟨⟨i + 1, _, by omega, by go_num, HST, HNX, ⟨HW.out.setCell (p := ⟨w.heap.size, i + k, none⟩) (Nat.le_refl _) _⟩⟩, by simp [intOf]; omega⟩
    · obtain rfl : i = la := by omega
      have hdn := HI.out
      rw [← HAL.out] at hdn
      have hv := hdn.done rfl
      have hrd := HR.out.rd (n := i + lb) (by rw [HI.out.len, HAL.out, HBL.out]) (by omega)
      have HRD := Aside0.mk hrd
      have HV := Aside0.mk hv
      have HIB := Aside0.mk HI.out.inb
      clear hdn hv hrd
      go_wp2_with ((go_at_call 33); (with_reducible refine (nat_norm' _ (i + lb) (i + lb) row _ HRD.out (Nat.le_refl _) HIB.out).mono ?_); (rintro e w' ⟨j, hk1, hk2, rfl, rfl⟩))
      refine bodyPost_ret (results_tmp rfl _ _ _) rfl ?_
      rw [HV.out] at hk2
      refine ⟨_, rfl, Vw.of_Rd (n := j) ?_ (Nat.le_refl _) (fun ad e _ => by cases e; exact Nat.le_refl _), HW.out⟩
      rw [← hk2]
      exact HRD.out.take j (by have := HRD.out.1; omega)
def PLIM : Nat := 1073741824
def prod_School.f (l0 l1 : List Int) : Option (List Int) := if inb l0 = true ∧ inb l1 = true ∧ l0.length ≤ PLIM ∧ l1.length ≤ PLIM then some (dig W (val W l0 * val W l1)) else none
theorem prod_School.calls (A0 : Option Addr) (c0 : Nat) (l0 : List Int) (A1 : Option Addr) (c1 : Nat) (l1 : List Int) (r : List Int) (w : World)
    (hr0 : Kd.C (Kd.int .u64) w A0 l0.length l0) (_hc0 : l0.length ≤ c0) (hr1 : Kd.C (Kd.int .u64) w A1 l1.length l1) (_hc1 : l1.length ≤ c1) (h : prod_School.f l0 l1 = some r) :
    Calls Try.prog 15 #[.slice A0 l0.length c0, .slice A1 l1.length c1] w fun e w' => ∃ v0_ : Value, e = .returned (v0_) ∧ Kd.V (Kd.int .u64) 38 w' w.heap.size (fun k_ => (w.heap.size ≤ k_)) v0_ r ∧ Below w.heap.size w w' := by
  unfold prod_School.f at h
  split at h
  · rename_i hi
    cases h
    have hp : PLIM ≤ 4294967296 := by decide
    exact calls_of_new (prod_school A0 A1 _ _ c0 c1 l0 l1 w (Rd.of_C hr0) (Rd.of_C hr1) (inb_iff.1 hi.1) (inb_iff.1 hi.2.1) (Nat.le_trans hi.2.2.1 hp) (Nat.le_trans hi.2.2.2 hp))
  · cases h
end Go.Proofs.Ytgoglfojjpibnaa.Hand
