/- nat.Sub by hand: a difference: the row of the difference of the values, or the error; new memory alone is written. Conditions: words, not too many. -/
import Derived.Test.YtgoglfojjpibnaaHNatQ
namespace Go.Proofs.Ytgoglfojjpibnaa.Hand
open Go.RowKit Go.Proofs.YtgoglfojjpibnaaW.PrintWords Go.Proofs.YtgoglfojjpibnaaW.PrintMore Go.Proofs.Ytgoglfojjpibnaa.Num
set_option linter.unusedVariables false
set_option linter.unusedSimpArgs false
attribute [local go_sem] Oper.semAt_some max2_int min2_int max_two min_two

/-- What has been made of the pairs that have come: the difference's words, and what is borrowed. -/
structure SubInv (pre : List WW) (out : List Int) (c : Int) : Prop where
  len : out.length = pre.length
  inb : InB W out
  c0 : 0 ≤ c
  c1 : c ≤ 1
  val : val W out + val W (snds pre) = val W (fsts pre) + W ^ pre.length * c.toNat
theorem SubInv.nil : SubInv [] [] 0 := ⟨rfl, inB_nil _, by omega, by omega, by simp [fsts, snds, Num.val]⟩
theorem SubInv.snoc {pre : List WW} {out : List Int} {c : Int} (h : SubInv pre out c) (x : WW) : SubInv (pre ++ [x]) (out ++ [subLo x.1.1 x.1.2 c]) (subHi x.1.1 x.1.2 c) := by
  have hs := sub_eq x.2.1 x.2.2 h.c0 h.c1
  have hw := subLo_wd x.1.1 x.1.2 c
  have hh := subHi_le x.1.1 x.1.2 c
  have h1 := x.2.1
  have h2 := x.2.2
  refine ⟨by simp [h.len], inB_append.2 ⟨h.inb, inB_cons.2 ⟨wd_inb hw, inB_nil _⟩⟩, hh.1, hh.2, ?_⟩
  have e1 : fsts (pre ++ [x]) = fsts pre ++ [x.1.1] := by simp [fsts]
  have e2 : snds (pre ++ [x]) = snds pre ++ [x.1.2] := by simp [snds]
  have l1 : (fsts pre).length = pre.length := by simp [fsts]
  have l2 : (snds pre).length = pre.length := by simp [snds]
  rw [e1, e2, val_snoc, val_snoc, val_snoc, h.len, l1, l2, List.length_append, List.length_singleton, Nat.pow_succ]
  have hv := h.val
  generalize subLo x.1.1 x.1.2 c = s at *
  generalize subHi x.1.1 x.1.2 c = t at *
  generalize x.1.1 = u at *
  generalize x.1.2 = v at *
  generalize Num.val W (fsts pre) = A at *
  generalize Num.val W (snds pre) = B at *
  generalize Num.val W out = O at *
  generalize W ^ pre.length = p at *
  obtain ⟨c0, c1⟩ : 0 ≤ c ∧ c ≤ 1 := ⟨h.c0, h.c1⟩
  obtain ⟨s, rfl⟩ := Int.eq_ofNat_of_zero_le hw.1
  obtain ⟨t, rfl⟩ := Int.eq_ofNat_of_zero_le hh.1
  obtain ⟨u, rfl⟩ := Int.eq_ofNat_of_zero_le h1.1
  obtain ⟨v, rfl⟩ := Int.eq_ofNat_of_zero_le h2.1
  obtain ⟨c, rfl⟩ := Int.eq_ofNat_of_zero_le c0
  simp only [Int.toNat_natCast] at *
  have hs' : s + v + c = u + W * t := by rw [W_eq]; omega
  clear hs hw hh h1 h2 c0 c1 h
  have : p * s + p * v + p * c = p * u + p * W * t := by rw [Nat.mul_assoc, ← Nat.mul_add, ← Nat.mul_add, hs', Nat.mul_add]
  omega

/-- What a difference leaves. -/
def SubPost (x y : Nat) (w : World) (e : Ending) (w' : World) : Prop := (∃ v : Value, e = .returned (.tuple #[v, .int .i64 (if x < y then 3 else 0)]) ∧ Vw w' w.heap.size (fun k => w.heap.size ≤ k) v (if x < y then [] else dig Num.W (x - y))) ∧ Below w.heap.size w w'
theorem subPost_done {w W : World} {B m k D x y : Nat} {l : List Int} (hB : B = w.heap.size) (hbl : Below w.heap.size w W) (hsz : B + 5 ≤ W.heap.size) (hr : Rd W (some ⟨B, 0, none⟩) m l) (hk : k ≤ m) (hxy : ¬ x < y) (he : l.take k = dig Num.W (x - y))
    (hD : B + 1 ≤ D) (hDW : W.heap[D]? = some (.deferred (some []))) :
    SubPost x y w (.returned (.tuple #[.slice (some ⟨B, 0, none⟩) k k, .int .i64 0])) (W.putObj D (.deferred none)) := by
  have hDs : D < W.heap.size := (Array.getElem?_eq_some_iff.1 hDW).1
  unfold SubPost
  rw [if_neg hxy, if_neg hxy]
  refine ⟨⟨_, rfl, Vw.of_Rd (n := k) ?_ (Nat.le_refl _) ?_⟩, hbl.trans (belowK_b (w := w) (Nat.le_refl _) W D _ _ (by omega) hDW rfl rfl)⟩
  · rw [← he]
    exact (hr.take k hk).kept (fun ad e => by cases e; exact World.putObj_heap_other (by simp; omega))
  · intro ad e _; cases e; simp [hB]
theorem subPost_less {w W : World} {B D x y : Nat} (hB : B = w.heap.size) (hbl : Below w.heap.size w W) (hxy : x < y)
    (hD : B + 1 ≤ D) (hDW : W.heap[D]? = some (.deferred (some []))) :
    SubPost x y w (.returned (.tuple #[.slice none 0 0, .int .i64 3])) (W.putObj D (.deferred none)) := by
  unfold SubPost
  rw [if_pos hxy, if_pos hxy]
  exact ⟨⟨_, rfl, Vw.nil _ _ _⟩, hbl.trans (belowK_b (w := w) (Nat.le_refl _) W D _ _ (by omega) hDW rfl rfl)⟩

set_option maxRecDepth 100000 in
set_option maxHeartbeats 2000000 in
theorem nat_sub (Aa Ab : Option Addr) (na nb ca cb : Nat) (a b : List Int) (w : World) (ha : Rd w Aa na a) (hb : Rd w Ab nb b) (hia : InB Num.W a) (hib : InB Num.W b) (hna : na ≤ 17592186044400) (hnb : nb ≤ 17592186044400) :
    Calls Try.prog 39 #[.slice Aa na ca, .slice Ab nb cb] w (SubPost (val Num.W a) (val Num.W b) w) := by
  obtain ⟨i0, hi, hi2⟩ := Option.map_eq_some_iff.1 info64
  simp only [Prod.mk.injEq] at hi2
  obtain ⟨hz0, hz1, hz2⟩ := hi2
  obtain ⟨m, hm⟩ : ∃ m, m = max na nb := ⟨_, rfl⟩
  have hmx2 : (if na < nb then ((nb : Nat) : Int) else ((na : Nat) : Int)) = ((m : Nat) : Int) := by rw [hm]; split <;> omega
  have hmx : (if ((na : Nat) : Int) < ((nb : Nat) : Int) then ((nb : Nat) : Int) else ((na : Nat) : Int)) = ((m : Nat) : Int) := by rw [hm]; split <;> omega
  have hml : m ≤ 17592186044400 := by omega
  have hmk := fun W => run_make_cap m (by omega) W
  have hmk' : ∀ W : World, (Instr.makeSlice 22 (.int .i64 0) (.int .i64 (m : Int))).run Try.prog W = .ok (.slice (some ⟨W.heap.size, 0, none⟩) 0 m) (W.alloc (.cells (madeCells #[.int .u64 0] m) 38)) := hmk
  have HM := Aside0.mk hm
  have HA := Aside0.mk ha
  have HB := Aside0.mk hb
  clear ha hb hm hmk
  refine (callsIn_wide (n := 6)).1 ?_
  refine callsIn_of_wp_marks Try.func39 rfl trivial ?_ rfl
  simp only [Try.ntmps39, List.size_toArray, List.length_cons, List.length_nil, Nat.reduceAdd, Nat.reduceSub, Array.replicate_succ, Array.replicate_zero, List.push_toArray, List.append_toArray, List.nil_append, List.cons_append]
  gi_wp2_with ((refine ⟨trivial, ?_⟩); gi_at_call 44; refine (callsIn_wide.2 (pairs_in _ _ _ _ _ _ _)).mono ?_; rintro e w' ⟨rfl, rfl⟩)
  have hO0 := own3_made w m (by unfold maxLen; omega)
  have hBa : (((((w.alloc (.cells (madeCells #[.int .u64 0] m) 38)).alloc (.cells #[.slice (some ⟨w.heap.size, 0, none⟩) 0 m] 22)).alloc (.cells #[.int .u64 0] 38)).alloc (.cells #[.slice Aa na ca] 22)).alloc (.cells #[.slice Ab nb cb] 22)).heap[w.heap.size + 1 + 1 + 1]? = some (.cells #[.slice Aa na ca] 22 (0, 0)) := by
    have := blk_new (((w.alloc (.cells (madeCells #[.int .u64 0] m) 38)).alloc (.cells #[.slice (some ⟨w.heap.size, 0, none⟩) 0 m] 22)).alloc (.cells #[.int .u64 0] 38)) (.cells #[.slice Aa na ca] 22)
    rw [World.size_alloc, World.size_alloc, World.size_alloc] at this
    exact blk_alloc this _
  have hBb : (((((w.alloc (.cells (madeCells #[.int .u64 0] m) 38)).alloc (.cells #[.slice (some ⟨w.heap.size, 0, none⟩) 0 m] 22)).alloc (.cells #[.int .u64 0] 38)).alloc (.cells #[.slice Aa na ca] 22)).alloc (.cells #[.slice Ab nb cb] 22)).heap[w.heap.size + 1 + 1 + 1 + 1]? = some (.cells #[.slice Ab nb cb] 22 (0, 0)) := by
    have := blk_new ((((w.alloc (.cells (madeCells #[.int .u64 0] m) 38)).alloc (.cells #[.slice (some ⟨w.heap.size, 0, none⟩) 0 m] 22)).alloc (.cells #[.int .u64 0] 38)).alloc (.cells #[.slice Aa na ca] 22)) (.cells #[.slice Ab nb cb] 22)
    rw [World.size_alloc, World.size_alloc, World.size_alloc, World.size_alloc] at this
    exact this
  have hB0 : Below w.heap.size w (((((w.alloc (.cells (madeCells #[.int .u64 0] m) 38)).alloc (.cells #[.slice (some ⟨w.heap.size, 0, none⟩) 0 m] 22)).alloc (.cells #[.int .u64 0] 38)).alloc (.cells #[.slice Aa na ca] 22)).alloc (.cells #[.slice Ab nb cb] 22)) := below_alloc (below_alloc (below_alloc (below_alloc (below_alloc (Below.refl _ _) _) _) _) _) _
  have hO1 := (hO0.grown (World.grownBy_alloc _ (.cells #[.slice Aa na ca] 22) none) (by simp) (by simp) (by simp)).grown (World.grownBy_alloc _ (.cells #[.slice Ab nb cb] 22) none) (by simp) (by simp) (by simp)
  refine wpIn_rangeFunc_ownG rfl (by omega) (gf := 48) (lb := #[.pointer (some ⟨w.heap.size + 1 + 1 + 1, 0, none⟩), .pointer (some ⟨w.heap.size + 1 + 1 + 1 + 1, 0, none⟩)]) rfl trivial (enters_of Try.func48 (by kernel_rfl) rfl)
    (pairs_stops 5 (by omega) (w.heap.size + 1 + 1 + 1) (w.heap.size + 1 + 1 + 1 + 1) w.heap.size na nb ca cb Aa Ab a b hia hib _ hBa hBb (by simp; omega) (HA.out.toB.keep hB0) (HB.out.toB.keep hB0))
    KeepB.trans (keepB_b (by simp; omega) (by simp) (by simp)) (Below.refl _ _) (fun _ => rfl)
    (fun pre W => ((∃ out c, Own3 w.heap.size m (.int .u64 c) pre.length out W ∧ SubInv pre out c) ∧ w.heap.size + 5 ≤ W.heap.size) ∧ Below w.heap.size w W)
    (fun _ _ _ => False)
    (OwnFrom.and (Own.from (fun s A B row hs hg hr => by
      obtain ⟨⟨out, c, ho, hi⟩, hz⟩ := hs
      exact ⟨⟨out, c, ho.other hg hr, hi⟩, Nat.le_trans hz hg.size⟩) _) (ownFrom_below (Nat.le_refl _) (by simp; omega)))
    (fun _ _ _ _ _ hs _ _ => hs)
    ⟨⟨⟨[], 0, hO1, SubInv.nil⟩, by simp⟩, hB0⟩
    ?a1 ?assign ?body ?done ?stop
  case assign =>
    intro l x W K hK
    gi_wp2
    exact hK
  case body =>
    rintro l pre x W ⟨⟨⟨out, c, hO, hI⟩, hz⟩, hB⟩ hlt
    have hx := x.2.1
    have hy := x.2.2
    have c0 := hI.c0
    have c1 := hI.c1
    have qo := hO.bo.cell
    have qc := hO.bc.cell
    have HO := Aside0.mk hO
    have HI := Aside0.mk hI
    have HBW := Aside0.mk hB
    have HZ := Aside0.mk hz
    clear hO hI hB hz
    have hd : 1 ≤ 6 - 1 - 1 := by omega
    have hle : pre.length + 1 ≤ m := by have := HM.out; omega
    have HLT := Aside0.mk hlt
    clear hlt
    gi_wp2_with (first | (gi_at_builtin; refine wpListIn_append_fits _ rfl _ _ 22 rfl w.heap.size 38 i0 1 Try.underlying22 hi hz1 w.heap.size pre.length m _ rfl (HO.out.row.alloc _) ⟨W.heap.size, 0, none⟩ 1 1 [.int .u64 (subLo x.1.1 x.1.2 c)] rfl rfl (cell_one_new _ _ _) (by simp [Value.oneCell']) hle ?_; intro w1 hown1 hgrow1; have b1 := (HO.out.bo.alloc _).kept hgrow1 (by simp); have b2 := (HO.out.bc.alloc _).kept hgrow1 (by simp; omega); have q1 := b1.cell; have q2 := b2.cell; have f1 := b1.frozen; have f2 := b2.frozen; have HOW := Aside0.mk hown1; have HGR := Aside0.mk hgrow1; clear hown1 hgrow1 b1 b2) | ((refine ⟨trivial, ?_⟩); (gi_at_call 47); (with_reducible refine (CallsIn.inRound l (callsIn_wide.2 (word_sub _ _ _ hx hy c0 c1 _))).mono ?_); (rintro e w' ⟨rfl, rfl⟩)))
    exact ⟨(keepsOthers_step HO.out HGR.out).from _, keepB_step HZ.out HGR.out, ⟨⟨_, _, by rw [List.length_append]; exact HO.out.step HOW.out HGR.out, HI.out.snoc x⟩, size_step HZ.out HGR.out⟩, below_step HBW.out HGR.out⟩
  case done =>
    rintro D ys W hD rfl ⟨⟨⟨out, c, hO, hI⟩, hz⟩, hB⟩ hK
    have hln : (upto (pairAt hia hib) (max na nb)).length = m := by rw [upto_length]; exact HM.out.symm
    have c0 := hI.c0
    have c1 := hI.c1
    have hvl := hI.val
    rw [hln] at hO hvl
    have hol : out.length = m := by rw [hI.len, hln]
    rw [val_fsts hia hib, val_snds hia hib, take_max HA.out.1 (Nat.le_max_left _ _), take_max HB.out.1 (Nat.le_max_right _ _)] at hvl
    have hlo := val_lt W_pos hI.inb
    have hlb := val_lt W_pos hib
    have hbm := Nat.pow_le_pow_right W_pos (show b.length ≤ m by rw [HB.out.1, HM.out]; exact Nat.le_max_right _ _)
    rw [hol] at hlo
    have HIB := Aside0.mk hI.inb
    have HOL := Aside0.mk hol
    have qo := hO.bo.cell
    have qc := hO.bc.cell
    have HRD := Aside0.mk (own_reads' (k := .u64) (xs := out) hO.row)
    have HO := Aside0.mk hO
    have HBW := Aside0.mk hB
    have HZ := Aside0.mk hz
    have HD := Aside0.mk hD
    have HK := Aside0.mk hK
    have hcc : c = 0 ∨ c = 1 := by omega
    clear hO hI hB hz hD hK hol hln
    rcases hcc with rfl | rfl
    · have HVL := Aside0.mk (show ¬ val Num.W a < val Num.W b ∧ val Num.W out = val Num.W a - val Num.W b by simp at hvl; omega)
      clear hvl hlo hlb hbm
      gi_wp2_with ((refine ⟨trivial, ?_⟩); (gi_at_call 33); (with_reducible refine (callsIn_wide.2 (nat_norm' _ m m out _ HRD.out (Nat.le_refl _) HIB.out)).mono ?_); (rintro e w' ⟨k, hk1, hk2, rfl, rfl⟩))
      rw [HVL.out.2] at hk2
      have hfin := subPost_done (B := w.heap.size) rfl HBW.out HZ.out HRD.out (by have := HRD.out.1; omega) HVL.out.1 hk2 (by have := HD.out; simp at this; omega) HK.out
      refine ⟨by simp, .inl ⟨_, _, rfl, run_takeDeferred HK.out, ?_⟩⟩
      refine ⟨_, results_tmp2 rfl _ _ _, ?_⟩
      exact hfin
    · have HVL := Aside0.mk (show val Num.W a < val Num.W b by simp at hvl; omega)
      clear hvl hlo hlb hbm
      gi_wp2
      have hfin := subPost_less (B := w.heap.size) rfl HBW.out HVL.out (by have := HD.out; simp at this; omega) HK.out
      refine ⟨by simp, .inl ⟨_, _, rfl, run_takeDeferred HK.out, ?_⟩⟩
      refine ⟨_, results_tmp2 rfl _ _ _, ?_⟩
      exact hfin
  case stop =>
    rintro D c pre W _ _ h _
    exact h.elim
def nat_Sub.f (l0 l1 : List Int) : Option (List Int × Int) := if inb l0 = true ∧ inb l1 = true ∧ l0.length ≤ LIM ∧ l1.length ≤ LIM then some (if val W l0 < val W l1 then [] else dig W (val W l0 - val W l1), if val W l0 < val W l1 then 3 else 0) else none
theorem nat_Sub.calls (A0 : Option Addr) (c0 : Nat) (l0 : List Int) (A1 : Option Addr) (c1 : Nat) (l1 : List Int) (r1 : List Int) (r2 : Int) (w : World)
    (hr0 : Kd.C (Kd.int .u64) w A0 l0.length l0) (_hc0 : l0.length ≤ c0) (hr1 : Kd.C (Kd.int .u64) w A1 l1.length l1) (_hc1 : l1.length ≤ c1) (h : nat_Sub.f l0 l1 = some (r1, r2)) :
    Calls Try.prog 39 #[.slice A0 l0.length c0, .slice A1 l1.length c1] w fun e w' => ∃ v0_ : Value, e = .returned (.tuple #[v0_, .int .i64 r2]) ∧ Kd.V (Kd.int .u64) 38 w' w.heap.size (fun k_ => (w.heap.size ≤ k_)) v0_ r1 ∧ Below w.heap.size w w' := by
  unfold nat_Sub.f at h
  split at h
  · rename_i hi
    obtain ⟨rfl, rfl⟩ := Prod.mk.injEq .. ▸ Option.some.inj h
    exact Calls.mono (nat_sub A0 A1 _ _ c0 c1 l0 l1 w (Rd.of_C hr0) (Rd.of_C hr1) (inb_iff.1 hi.1) (inb_iff.1 hi.2.1) hi.2.2.1 hi.2.2.2) fun e w' ⟨⟨v, h1, h2⟩, h3⟩ => ⟨v, h1, h2, h3⟩
  · cases h
end Go.Proofs.Ytgoglfojjpibnaa.Hand
