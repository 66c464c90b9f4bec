/- nat.Scale by hand: a number times a word: the row of the product of the values; new memory alone is written. Conditions: words, not too many. -/
import Derived.Test.YtgoglfojjpibnaaHNatR
namespace Go.Proofs.Ytgoglfojjpibnaa.Hand
open Go.RowKit Go.Proofs.YtgoglfojjpibnaaW.PrintWords Go.Proofs.YtgoglfojjpibnaaW.PrintMore Go.Proofs.Ytgoglfojjpibnaa.Num
set_option linter.unusedVariables false
set_option linter.unusedSimpArgs false
attribute [local go_sem] Oper.semAt_some max2_int min2_int max_two min_two

/-- What has been made of a number's first words: the product's words, and what is carried. -/
structure SclInv (x : Int) (pre : List Int) (out : List Int) (c : Int) : Prop where
  len : out.length = pre.length
  inb : InB W out
  c0 : Wd c
  val : val W out + W ^ pre.length * c.toNat = val W pre * x.toNat
theorem SclInv.nil (x : Int) : SclInv x [] [] 0 := ⟨rfl, inB_nil _, by unfold Wd; omega, by simp [Num.val]⟩
theorem scl_carry {y x c : Int} (hy : Wd y) (hx : Wd x) (hc : Wd c) : Wd (mulHi y x + sumHi (mulLo y x) c 0) ∧ sumLo (mulLo y x) c 0 + 18446744073709551616 * (mulHi y x + sumHi (mulLo y x) c 0) = y * x + c := by
  have h1 := mul_eq y x
  have h2 := sum_eq (mulLo y x) c 0
  have h3 := sumLo_wd (mulLo y x) c 0
  have h4 := mulHi_wd hy hx
  have h5 := sumHi_le (mulLo_wd y x) hc (Int.le_refl 0) (by omega : (0 : Int) ≤ 1)
  have h6 : y * x ≤ 18446744073709551615 * 18446744073709551615 := by
    obtain ⟨y, rfl⟩ := Int.eq_ofNat_of_zero_le hy.1
    obtain ⟨x, rfl⟩ := Int.eq_ofNat_of_zero_le hx.1
    have := Nat.mul_le_mul (show y ≤ 18446744073709551615 by have := hy.2; omega) (show x ≤ 18446744073709551615 by have := hx.2; omega)
    exact (Int.ofNat_le.2 this : ((y * x : Nat) : Int) ≤ ((18446744073709551615 * 18446744073709551615 : Nat) : Int))
  unfold Wd at *
  generalize mulHi y x = p at *
  generalize mulLo y x = q at *
  generalize sumHi q c 0 = r at *
  generalize sumLo q c 0 = t at *
  generalize y * x = z at *
  omega
theorem SclInv.snoc {x : Int} {pre out : List Int} {c y : Int} (h : SclInv x pre out c) (hx : Wd x) (hy : Wd y) : SclInv x (pre ++ [y]) (out ++ [sumLo (mulLo y x) c 0]) (mulHi y x + sumHi (mulLo y x) c 0) := by
  obtain ⟨hw, he⟩ := scl_carry hy hx h.c0
  have hl := sumLo_wd (mulLo y x) c 0
  refine ⟨by simp [h.len], inB_append.2 ⟨h.inb, inB_cons.2 ⟨wd_inb hl, inB_nil _⟩⟩, hw, ?_⟩
  rw [val_snoc, val_snoc, h.len, List.length_append, List.length_singleton, Nat.pow_succ]
  have hv := h.val
  have hc := h.c0
  generalize mulHi y x + sumHi (mulLo y x) c 0 = t at *
  generalize sumLo (mulLo y x) c 0 = s at *
  obtain ⟨s, rfl⟩ := Int.eq_ofNat_of_zero_le hl.1
  obtain ⟨t, rfl⟩ := Int.eq_ofNat_of_zero_le hw.1
  obtain ⟨x, rfl⟩ := Int.eq_ofNat_of_zero_le hx.1
  obtain ⟨y, rfl⟩ := Int.eq_ofNat_of_zero_le hy.1
  obtain ⟨c, rfl⟩ := Int.eq_ofNat_of_zero_le hc.1
  simp only [Int.toNat_natCast] at *
  have he' : s + W * t = y * x + c := Int.ofNat_inj.1 (show ((s + W * t : Nat) : Int) = ((y * x + c : Nat) : Int) from he)
  generalize Num.val W pre = A at *
  generalize Num.val W out = O at *
  generalize W ^ pre.length = p at *
  clear he hw hl hx hy hc h
  have : p * s + p * W * t = p * y * x + p * c := by rw [Nat.mul_assoc, ← Nat.mul_add, he', Nat.mul_add, Nat.mul_assoc]
  rw [Nat.add_mul]
  omega
theorem SclInv.done {x : Int} {a out : List Int} {c : Int} (h : SclInv x a out c) : InB Num.W (out ++ [c]) ∧ Num.val Num.W (out ++ [c]) = Num.val Num.W a * x.toNat :=
  ⟨inB_append.2 ⟨h.inb, inB_cons.2 ⟨wd_inb h.c0, inB_nil _⟩⟩, by rw [val_snoc, h.len]; exact h.val⟩

/-- The end of a call that hands back its own row, cut short. -/
theorem newPost_ret {w W w1 : World} {m k : Nat} {l r : List Int} {o : Obj} (hbl : Below w.heap.size w W) (hsz : w.heap.size < W.heap.size) (hg : (W.alloc o).grownBy w1 (some w.heap.size)) (hr : Rd w1 (some ⟨w.heap.size, 0, none⟩) m l) (hk : k ≤ m) (he : l.take k = r) :
    NewPost r w (.returned (.slice (some ⟨w.heap.size, 0, none⟩) k k)) w1 := by
  refine ⟨_, rfl, Vw.of_Rd (l := r) (n := k) ?_ (Nat.le_refl _) ?_, ?_⟩
  · rw [← he]; exact hr.take k hk
  · intro ad e _; cases e; simp
  · exact (below_alloc hbl o).grown hg (by simp; omega) (fun k e => by cases e; omega)
theorem take_snoc (a : List Int) (k : Nat) (h : k < a.length) : a.take (k + 1) = a.take k ++ [a.getD k 0] := by
  rw [List.take_add_one, List.getD_eq_getElem?_getD, List.getElem?_eq_getElem h]; rfl

set_option maxRecDepth 100000 in
set_option maxHeartbeats 2000000 in
theorem nat_scale (A : Option Addr) (n ca : Nat) (a : List Int) (x : Int) (w : World) (hr : Rd w A n a) (hia : InB Num.W a) (hx : Wd x) (hna : n ≤ 17592186044400) :
    Calls Try.prog 36 #[.slice A n ca, .int .u64 x] w (NewPost (dig Num.W (val Num.W a * x.toNat)) w) := by
  obtain ⟨i0, hi, hi2⟩ := Option.map_eq_some_iff.1 info64
  simp only [Prod.mk.injEq] at hi2
  obtain ⟨hz0, hz1, hz2⟩ := hi2
  have hmk := fun W => run_make_cap (n + 1) (by omega) W
  have hmk' : ∀ W : World, (Instr.makeSlice 22 (.int .i64 0) (.int .i64 ((n : Int) + 1))).run Try.prog W = .ok (.slice (some ⟨W.heap.size, 0, none⟩) 0 (n + 1)) (W.alloc (.cells (madeCells #[.int .u64 0] (n + 1)) 38)) := hmk
  have HA := Aside0.mk hr
  clear hr hmk
  go_enter Try.func36, Try.ntmps36
  go_wp2
  have h0 : (World.alloc w (.cells (madeCells #[.int .u64 0] (n + 1)) 38)).ownsRow w.heap.size 38 1 (.slice (some ⟨w.heap.size, 0, none⟩) 0 (n + 1)) 0 (nums .u64 []) := World.ownsRow_made (base := w.heap.size) (e := 38) (size := 1) w (madeCells #[.int .u64 0] (n + 1)) (n + 1) (Nat.le_refl _) (by unfold maxLen; omega) (by rw [size_madeCells, Nat.mul_one])
  have H0 := Aside0.mk h0
  clear h0
  go_loopw [5, 6, 19] (fun o c i wr => ∃ (k : Nat) (out : List Int) (cv : Int), k ≤ n ∧ i = .int .i64 k ∧ c = .int .u64 cv ∧ o = .slice (some ⟨w.heap.size, 0, none⟩) k (n + 1) ∧ Aside0 (wr.ownsRow w.heap.size 38 1 (.slice (some ⟨w.heap.size, 0, none⟩) k (n + 1)) k (nums .u64 out)) ∧ Aside0 (SclInv x (a.take k) out cv) ∧ Aside0 (Below w.heap.size w wr) ∧ Aside0 (w.heap.size < wr.heap.size)) (fun _ _ i _ => n - (intOf i).toNat)
  case atStart => exact ⟨0, [], 0, by omega, rfl, rfl, rfl, H0, ⟨by rw [List.take_zero]; exact SclInv.nil x⟩, ⟨below_alloc (Below.refl _ _) _⟩, ⟨by simp⟩⟩
  case round =>
    obtain ⟨k, out, c, hk, rfl, rfl, rfl, HO, HI, HB, HZ⟩ := hrel
    by_cases hlt : k < n
    · have hrk := (HA.out.toB.keep HB.out).1
      obtain ⟨ad, hA, hcell⟩ := hrk.2.2 (by omega)
      have hck := hcell k hlt
      have hyw := inB_getD Num.W_pos hia k
      have htk : a.take (k + 1) = a.take k ++ [a.getD k 0] := take_snoc a k (by rw [HA.out.1]; exact hlt)
      have HTK := Aside0.mk htk
      clear hcell hrk htk
      subst hA
      generalize a.getD k 0 = y at *
      have hy : Wd y := hyw
      have hc := HI.out.c0
      have hm1 := mulLo_wd y x
      obtain ⟨hcar, _⟩ := scl_carry hy hx hc
      have hcb := hcar.2
      have hca := hcar.1
      clear hyw
      have hle : k + 1 ≤ n + 1 := by omega
      have z0 : (0 : Int) ≤ 0 := Int.le_refl _
      have z1 : (0 : Int) ≤ 1 := by decide
      go_wp2_with (first | (at_builtin; refine wpList_append_fits _ rfl _ _ 22 rfl w.heap.size 38 i0 1 Try.underlying22 hi hz1 w.heap.size k (n + 1) _ rfl (HO.out.alloc _) ⟨wr.heap.size, 0, none⟩ 1 1 [.int .u64 (sumLo (mulLo y x) c 0)] rfl rfl (cell_one_new _ _ _) (by simp [Value.oneCell']) hle ?_; intro w1 hown1 hgrow1; have HOW := Aside0.mk hown1; have HGR := Aside0.mk hgrow1; clear hown1 hgrow1) | ((go_at_call 31); (refine (word_mul _ _ hy hx _).mono ?_); (rintro e w' ⟨rfl, rfl⟩)) | ((go_at_call 32); (refine (word_add _ _ _ hm1 hc z0 z1 _).mono ?_); (rintro e w' ⟨rfl, rfl⟩)))
      refine ⟨⟨k + 1, out ++ [sumLo (mulLo y x) c 0], mulHi y x + sumHi (mulLo y x) c 0, by omega, by go_num, rfl, rfl, ⟨by simpa [nums] using HOW.out⟩, ⟨by rw [HTK.out]; exact HI.out.snoc hx hy⟩, ⟨(below_alloc HB.out _).grown HGR.out (by have := HZ.out; simp; omega) (fun j e => by cases e; exact Nat.le_refl _)⟩, ⟨by have := HGR.out.size; have := HZ.out; simp at *; omega⟩⟩, by simp [intOf]; omega⟩
    · obtain rfl : k = n := by omega
      have hI := HI.out
      rw [List.take_of_length_le (by rw [HA.out.1]; exact Nat.le_refl _)] at hI
      have HD := Aside0.mk hI.done
      have hle : k + 1 ≤ k + 1 := Nat.le_refl _
      clear hI
      go_wp2_with (first | (at_builtin; refine wpList_append_fits _ rfl _ _ 22 rfl w.heap.size 38 i0 1 Try.underlying22 hi hz1 w.heap.size k (k + 1) _ rfl (HO.out.alloc _) ⟨wr.heap.size, 0, none⟩ 1 1 [.int .u64 c] rfl rfl (cell_one_new _ _ _) (by simp [Value.oneCell']) hle ?_; intro w1 hown1 hgrow1; have hrd1 := own_reads' (k := .u64) (xs := out ++ [c]) (by simpa [nums] using hown1); have HRD := Aside0.mk hrd1; have HGR := Aside0.mk hgrow1; clear hown1 hgrow1 hrd1) | ((go_at_call 33); (refine (nat_norm' _ (k + 1) (k + 1) (out ++ [c]) _ HRD.out (Nat.le_refl _) HD.out.1).mono ?_); (rintro e w' ⟨j, hk1, hk2, rfl, rfl⟩)))
      rw [HD.out.2] at hk2
      refine bodyPost_ret (results_tmp rfl _ _ _) rfl ?_
      exact newPost_ret HB.out HZ.out HGR.out HRD.out (by have := HRD.out.1; omega) hk2

def wd (x : Int) : Bool := decide (0 ≤ x) && decide (x < 18446744073709551616)
theorem wd_iff {x : Int} : wd x = true ↔ Wd x := by simp [wd, Wd]
def nat_Scale.f (l0 : List Int) (a1 : Int) : Option (List Int) := if inb l0 = true ∧ wd a1 = true ∧ l0.length ≤ LIM then some (dig W (val W l0 * a1.toNat)) else none
theorem nat_Scale.calls (A0 : Option Addr) (c0 : Nat) (l0 : List Int) (a1 : Int) (r : List Int) (w : World)
    (hr0 : Kd.C (Kd.int .u64) w A0 l0.length l0) (_hc0 : l0.length ≤ c0) (h : nat_Scale.f l0 a1 = some r) :
    Calls Try.prog 36 #[.slice A0 l0.length c0, .int .u64 a1] w fun e w' => ∃ v0_ : Value, e = .returned (v0_) ∧ Kd.V (Kd.int .u64) 38 w' w.heap.size (fun k_ => (w.heap.size ≤ k_)) v0_ r ∧ Below w.heap.size w w' := by
  unfold nat_Scale.f at h
  split at h
  · rename_i hi
    cases h
    exact calls_of_new (nat_scale A0 _ c0 l0 a1 w (Rd.of_C hr0) (inb_iff.1 hi.1) (wd_iff.1 hi.2.1) hi.2.2)
  · cases h
end Go.Proofs.Ytgoglfojjpibnaa.Hand
