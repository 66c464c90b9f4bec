/- Law 14: the document's number, Sum, takeRow, May, as contracts without rounds; and what its Take tells, in plain words: just what crc.Take tells. -/
import Derived.Test.YtanjahakoadecaaDoorPCrcI
import Derived.Test.YtanjahakoadecaaDoorHCrcY
namespace Go.Proofs.YtanjahakoadecaaDoor.Hand
open Go.RowKit Go.Proofs.YtanjahakoadecaaDoorW.PrintWords Go.Proofs.YtanjahakoadecaaDoorW.PrintLast Go.Proofs.YtanjahakoadecaaDoorW.PrintMore Go.Proofs.YtanjahakoadecaaDoor.Num Go.Proofs.YtanjahakoadecaaDoor.Pure
set_option linter.unusedVariables false
set_option linter.unusedSimpArgs false

set_option maxRecDepth 100000 in
theorem ref_number (s : ByteArray) (w : World) (hs : s.size ≤ 8) :
    Calls Tryd.prog 29 #[.string s] w fun e w' => e = .returned (.int .u64 ((numF s.data.toList 0 : Nat) : Int)) ∧ w' = w := by
  go_enter Tryd.func29, Tryd.ntmps29
  go_wp2
  go_loopw [3, 4] (fun v3 v4 wr => ∃ (v i : Nat), v3 = .int .u64 (v : Int) ∧ v4 = .int .i64 (i : Int) ∧ i ≤ s.size ∧ v < 256 ^ i ∧ wr = w ∧ Aside0 (numF (s.data.toList.drop i) v = numF s.data.toList 0)) (fun _ v4 _ => s.size - (intOf v4).toNat)
  case atStart => exact ⟨0, 0, rfl, rfl, Nat.zero_le _, by decide, rfl, ⟨rfl⟩⟩
  case round =>
    obtain ⟨v, i, rfl, rfl, hi, hv, rfl, HF⟩ := hrel
    by_cases hlt : i < s.size
    · have hb : s[i].toNat < 256 := s[i].toNat_lt
      have hv2 : v < 72057594037927936 := Nat.lt_of_lt_of_le hv (Nat.le_trans (Nat.pow_le_pow_right (by decide) (show i ≤ 7 by omega)) (by decide))
      have HV := Aside0.mk hv
      clear hv
      go_wp2
      refine ⟨⟨v * 256 + s[i].toNat, i + 1, ?_, rfl, hlt, ?_, trivial, ⟨?_⟩⟩, by simp only [intOf]; omega⟩
      · congr 1; omega
      · have := HV.out
        rw [Nat.pow_succ]
        omega
      · rw [← HF.out, List.drop_eq_getElem_cons (show i < s.data.toList.length from hlt)]
        rfl
    · go_wp2
      refine bodyPost_ret (results_tmp rfl _ _ _) rfl ?_
      have h := HF.out
      rw [List.drop_eq_nil_of_le (by show s.size ≤ i; omega)] at h
      exact ⟨by rw [← h]; rfl, rfl⟩
theorem ref_sum (s : ByteArray) (w : World) (h : s.size ≤ 4611686018427387904) : Calls Tryd.prog 19 #[.string s] w fun e w' => e = .returned (.int .u32 ((crcL (bl s) : Nat) : Int)) ∧ ∃ n, w' = w.drewN n := by
  obtain ⟨k, hk⟩ := (refSum_ev s h).get
  refine (Pc.tallystickref14_Sum.calls k s _ w hk).mono ?_
  rintro e w' ⟨rfl, nd, rfl⟩
  exact ⟨rfl, nd, rfl⟩
theorem ref_takeRow (s : ByteArray) (w : World) : Calls Tryd.prog 30 #[.string s] w fun e w' => ∃ A c, e = .returned (.tuple #[.slice A (rowRef s).1.length c, .string (rowRef s).2.1, .int .i64 (rowRef s).2.2]) ∧ Kd.R (Kd.int .u64) 58 w' w.heap.size (fun _ => True) (.slice A (rowRef s).1.length c) (rowRef s).1 ∧ Below w.heap.size w w' := by
  obtain ⟨k, hk⟩ := (takeRow_ev s).get
  rcases hr : rowRef s with ⟨r1, r2, r3⟩
  rw [hr] at hk
  refine (Pc.tallystickref14_takeRow.calls k s r1 r2 r3 w hk).mono ?_
  rintro e w' ⟨v, rfl, h1, h2⟩
  obtain ⟨A, c, rfl⟩ := Kd.R_slice h1
  exact ⟨A, c, rfl, h1, h2⟩
theorem ref_may (a0 a1 a2 a3 a4 : Int) (AP : Option Addr) (cp : Nat) (p : List Int) (AQ : Option Addr) (cq : Nat) (q : List Int) (AR : Option Addr) (cr : Nat) (r : List Int) (mi : Bool) (w : World)
    (hp : Kd.C (Kd.int .u64) w AP p.length p) (hcp : p.length ≤ cp) (hq : Kd.C (Kd.int .u64) w AQ q.length q) (hcq : q.length ≤ cq) (hr : Kd.C (Kd.int .u64) w AR r.length r) (hcr : r.length ≤ cr) (ip : InB W p) (iq : InB W q) (ir : InB W r) (lp : p.length ≤ 4096) (lq : q.length ≤ 4096) (lr : r.length ≤ 4096) :
    Calls Tryd.prog 26 #[.agg #[.int .i64 a0, .int .i64 a1, .int .i64 a2, .int .i64 a3, .int .i64 a4, .slice AP p.length cp, .slice AQ q.length cq, .slice AR r.length cr, .bool mi]] w fun e w' => e = .returned (.bool (mayV a0 a1 a2 a3 a4 p q r)) ∧ Below w.heap.size w w' := by
  have hmx : maxLen = 9223372036854775807 := rfl
  exact Pc.tallystickref14_May.calls a0 a1 a2 a3 a4 AP cp p AQ cq q AR cr r mi _ w hp hcp hq hcq hr hcr (refMay a0 a1 a2 a3 a4 mi ip iq ir (by omega) (by omega) (by omega))
/-- What the document's Take tells of the bytes between its ends. -/
def tkB (B : ByteArray) : RecF × Int :=
  if B.size < 18 then (noneR, 5) else if 1 < bt B 17 then (noneR, 6) else
  if (rowRef (B.extract 18 B.size)).2.2 ≠ 0 then (noneR, (rowRef (B.extract 18 B.size)).2.2) else
  if (rowRef (rowRef (B.extract 18 B.size)).2.1).2.2 ≠ 0 then (noneR, (rowRef (rowRef (B.extract 18 B.size)).2.1).2.2) else
  if (rowRef (rowRef (rowRef (B.extract 18 B.size)).2.1).2.1).2.2 ≠ 0 then (noneR, (rowRef (rowRef (rowRef (B.extract 18 B.size)).2.1).2.1).2.2) else
  if 0 < (rowRef (rowRef (rowRef (B.extract 18 B.size)).2.1).2.1).2.1.size then (noneR, 6) else
  if mayV (bt B 0) ((numF (bl (B.extract 1 5)) 0 : Nat) : Int) ((numF (bl (B.extract 5 9)) 0 : Nat) : Int) ((numF (bl (B.extract 9 13)) 0 : Nat) : Int) ((numF (bl (B.extract 13 17)) 0 : Nat) : Int) (rowRef (B.extract 18 B.size)).1 (rowRef (rowRef (B.extract 18 B.size)).2.1).1 (rowRef (rowRef (rowRef (B.extract 18 B.size)).2.1).2.1).1 = true then
  (((((bt B 0).toNat, numF (bl (B.extract 1 5)) 0, numF (bl (B.extract 5 9)) 0, numF (bl (B.extract 9 13)) 0, numF (bl (B.extract 13 17)) 0), ((rowRef (B.extract 18 B.size)).1, (rowRef (rowRef (B.extract 18 B.size)).2.1).1, (rowRef (rowRef (rowRef (B.extract 18 B.size)).2.1).2.1).1), (bt B 17 == 1)), 0) : RecF × Int) else (noneR, 1)
/-- What a call tells: a record's cells, its rows, a number. -/
def TakeT (x : RecF × Int) (w : World) (e : Ending) (w' : World) : Prop :=
  ∃ v5_ v6_ v7_ : Value, e = .returned (.tuple #[.agg #[.int .i64 (x.1.1.1 : Int), .int .i64 (x.1.1.2.1 : Int), .int .i64 (x.1.1.2.2.1 : Int), .int .i64 (x.1.1.2.2.2.1 : Int), .int .i64 (x.1.1.2.2.2.2 : Int), v5_, v6_, v7_, .bool x.1.2.2], .int .i64 x.2]) ∧ Kd.V (Kd.int .u64) 58 w' w.heap.size (fun k_ => (w.heap.size ≤ k_)) v5_ x.1.2.1.1 ∧ Kd.V (Kd.int .u64) 58 w' w.heap.size (fun k_ => (w.heap.size ≤ k_)) v6_ x.1.2.1.2.1 ∧ Kd.V (Kd.int .u64) 58 w' w.heap.size (fun k_ => (w.heap.size ≤ k_)) v7_ x.1.2.1.2.2 ∧ Below w.heap.size w w'
theorem tellsT_none {n : Int} {w w' : World} (h : Below w.heap.size w w') : TakeT (noneR, n) w (.returned (.tuple #[zeroRec, .int .i64 n])) w' := ⟨_, _, _, rfl, Kd.V_nil _ _ _ _ _, Kd.V_nil _ _ _ _ _, Kd.V_nil _ _ _ _ _, h⟩
theorem tkB_few {B : ByteArray} (h : B.size < 18) : tkB B = (noneR, 5) := by unfold tkB; rw [if_pos h]
theorem tkB_sign {B : ByteArray} (h : ¬ B.size < 18) (hm : 1 < bt B 17) : tkB B = (noneR, 6) := by unfold tkB; rw [if_neg h, if_pos hm]
theorem tkB_1 {B S1 : ByteArray} {P : List Int} {e1 : Int} (h : ¬ B.size < 18) (hm : ¬ 1 < bt B 17) (h1 : rowRef (B.extract 18 B.size) = (P, S1, e1)) (he : e1 ≠ 0) : tkB B = (noneR, e1) := by
  unfold tkB
  rw [if_neg h, if_neg hm, h1, if_pos he]
theorem tkB_2 {B S1 S2 : ByteArray} {P Q : List Int} {e2 : Int} (h : ¬ B.size < 18) (hm : ¬ 1 < bt B 17) (h1 : rowRef (B.extract 18 B.size) = (P, S1, 0)) (h2 : rowRef S1 = (Q, S2, e2)) (he : e2 ≠ 0) : tkB B = (noneR, e2) := by
  unfold tkB
  rw [if_neg h, if_neg hm, h1, if_neg (by simp)]
  simp only [h2]
  rw [if_pos he]
theorem tkB_3 {B S1 S2 S3 : ByteArray} {P Q R : List Int} {e3 : Int} (h : ¬ B.size < 18) (hm : ¬ 1 < bt B 17) (h1 : rowRef (B.extract 18 B.size) = (P, S1, 0)) (h2 : rowRef S1 = (Q, S2, 0)) (h3 : rowRef S2 = (R, S3, e3)) (he : e3 ≠ 0) : tkB B = (noneR, e3) := by
  unfold tkB
  rw [if_neg h, if_neg hm, h1, if_neg (by simp)]
  simp only [h2, h3]
  rw [if_neg (by simp), if_pos he]
theorem tkB_more {B S1 S2 S3 : ByteArray} {P Q R : List Int} (h : ¬ B.size < 18) (hm : ¬ 1 < bt B 17) (h1 : rowRef (B.extract 18 B.size) = (P, S1, 0)) (h2 : rowRef S1 = (Q, S2, 0)) (h3 : rowRef S2 = (R, S3, 0)) (hs : 0 < S3.size) : tkB B = (noneR, 6) := by
  unfold tkB
  rw [if_neg h, if_neg hm, h1, if_neg (by simp)]
  simp only [h2, h3]
  rw [if_neg (by simp), if_neg (by simp), if_pos hs]
theorem tkB_end {B S1 S2 S3 : ByteArray} {P Q R : List Int} {d g f u : Nat} (h : ¬ B.size < 18) (hm : ¬ 1 < bt B 17) (h1 : rowRef (B.extract 18 B.size) = (P, S1, 0)) (h2 : rowRef S1 = (Q, S2, 0)) (h3 : rowRef S2 = (R, S3, 0)) (hs : ¬ 0 < S3.size)
    (hd : numF (bl (B.extract 1 5)) 0 = d) (hg : numF (bl (B.extract 5 9)) 0 = g) (hf : numF (bl (B.extract 9 13)) 0 = f) (hu : numF (bl (B.extract 13 17)) 0 = u) :
    tkB B = if mayV (bt B 0) (d : Int) (g : Int) (f : Int) (u : Int) P Q R = true then (((((bt B 0).toNat, d, g, f, u), (P, Q, R), (bt B 17 == 1)), 0) : RecF × Int) else (noneR, 1) := by
  unfold tkB
  rw [if_neg h, if_neg hm, h1, if_neg (by simp)]
  simp only [h2, h3]
  rw [if_neg (by simp), if_neg (by simp), if_neg hs, hd, hg, hf, hu]
theorem rowRef_ok {S S1 : ByteArray} {P : List Int} (h : rowRef S = (P, S1, 0)) : InB W P ∧ P.length ≤ 4096 ∧ rowF none S = (P, none, S1) := by
  unfold rowRef at h
  cases hw : (rowF none S).2.1 with
  | some e =>
    rw [hw] at h
    simp only [Prod.mk.injEq] at h
    obtain ⟨_, _, rfl⟩ := h
    exact ((nz_row nz_none) 0 hw rfl).elim
  | none =>
    rw [hw] at h
    simp only [Prod.mk.injEq, and_true] at h
    obtain ⟨h1, h2⟩ := h
    obtain ⟨_, i1, o1, _⟩ := row_bwd hw
    rw [h1] at i1 o1
    unfold ordV at o1
    rw [Bool.and_eq_true, decide_eq_true_eq] at o1
    exact ⟨i1, o1.1, Prod.ext h1 (Prod.ext hw h2)⟩
/-! ### what stands while the record is filled -/
structure TS (w0 w : World) (rb : Nat) (xs ys : Array Value) (vp vq vr : Value) (p q r : List Int) : Prop where
  p : Kd.V (Kd.int .u64) 58 w w0.heap.size (fun k => w0.heap.size ≤ k ∧ k ≠ w0.heap.size ∧ k ≠ rb) vp p
  q : Kd.V (Kd.int .u64) 58 w w0.heap.size (fun k => w0.heap.size ≤ k ∧ k ≠ w0.heap.size ∧ k ≠ rb) vq q
  r : Kd.V (Kd.int .u64) 58 w w0.heap.size (fun k => w0.heap.size ≤ k ∧ k ≠ w0.heap.size ∧ k ≠ rb) vr r
  bel : Below w0.heap.size w0 w
  res : w.heap[w0.heap.size]? = some (.cells xs 34 (0, 0))
  rcd : w.heap[rb]? = some (.cells ys 34 (0, 0))
  hi : w0.heap.size < rb
theorem TS.putR {w0 w : World} {rb : Nat} {xs ys : Array Value} {vp vq vr : Value} {p q r : List Int} (h : TS w0 w rb xs ys vp vq vr p q r) (k : Nat) (v : Value) : TS w0 (w.setCell ⟨rb, k, none⟩ v) rb xs (ys.setIfInBounds k v) vp vq vr p q r :=
  ⟨Kd.V_far (p := ⟨rb, k, none⟩) h.p (fun _ hk => hk.2.2) v, Kd.V_far (p := ⟨rb, k, none⟩) h.q (fun _ hk => hk.2.2) v, Kd.V_far (p := ⟨rb, k, none⟩) h.r (fun _ hk => hk.2.2) v, h.bel.setCell (p := ⟨rb, k, none⟩) (Nat.le_of_lt h.hi) _,
    (Below.heap_setCell w ⟨rb, k, none⟩ v w0.heap.size (by have := h.hi; show w0.heap.size ≠ rb; omega)).trans h.res, set_at h.rcd, h.hi⟩
theorem TS.putS {w0 w : World} {rb : Nat} {xs ys : Array Value} {vp vq vr : Value} {p q r : List Int} (h : TS w0 w rb xs ys vp vq vr p q r) (k : Nat) (v : Value) : TS w0 (w.setCell ⟨w0.heap.size, k, none⟩ v) rb (xs.setIfInBounds k v) ys vp vq vr p q r :=
  ⟨Kd.V_far (p := ⟨w0.heap.size, k, none⟩) h.p (fun _ hk => hk.2.1) v, Kd.V_far (p := ⟨w0.heap.size, k, none⟩) h.q (fun _ hk => hk.2.1) v, Kd.V_far (p := ⟨w0.heap.size, k, none⟩) h.r (fun _ hk => hk.2.1) v, h.bel.setCell (p := ⟨w0.heap.size, k, none⟩) (Nat.le_refl _) _,
    set_at h.res, (Below.heap_setCell w ⟨w0.heap.size, k, none⟩ v rb (by have := h.hi; show rb ≠ w0.heap.size; omega)).trans h.rcd, h.hi⟩
theorem TS.later {w0 w w1 : World} {rb : Nat} {xs ys : Array Value} {vp vq vr : Value} {p q r : List Int} (h : TS w0 w rb xs ys vp vq vr p q r) (k : Below w.heap.size w w1) : TS w0 w1 rb xs ys vp vq vr p q r :=
  ⟨Kd.V_below h.p k, Kd.V_below h.q k, Kd.V_below h.r k, h.bel.trans (k.mono h.bel.size), blk_below h.res k, blk_below h.rcd k, h.hi⟩
theorem TS.drew {w0 w : World} {rb : Nat} {xs ys : Array Value} {vp vq vr : Value} {p q r : List Int} (h : TS w0 w rb xs ys vp vq vr p q r) : TS w0 w.drew rb xs ys vp vq vr p q r := h.later (below_drew1 (Below.refl _ _))
theorem TS.zero {w0 w : World} {rb : Nat} {ys : Array Value} {vp vq vr : Value} {p q r : List Int} (h : TS w0 w rb #[.int .i64 0, .int .i64 0, .int .i64 0, .int .i64 0, .int .i64 0, .slice none 0 0, .slice none 0 0, .slice none 0 0, .bool false] ys vp vq vr p q r) : Zr w0 w w0.heap.size := ⟨h.bel, h.res, Nat.le_refl _⟩
/-- A row of one's own, new since: as the state tells it. -/
theorem row_TS {w0 w w1 : World} {rb : Nat} {xs ys : Array Value} {vp vq vr : Value} {p q r : List Int} (h : TS w0 w rb xs ys vp vq vr p q r) {v : Value} {l : List Int} (hr : Kd.R (Kd.int .u64) 58 w1 w.heap.size (fun _ => True) v l) : Kd.V (Kd.int .u64) 58 w1 w0.heap.size (fun k => w0.heap.size ≤ k ∧ k ≠ w0.heap.size ∧ k ≠ rb) v l :=
  Kd.R_V (Kd.R_mono (Kd.R_bound hr) (fun k hk => by have h1 := hk.2.1; have h2 := blk_lt h.rcd; have h3 := blk_lt h.res; omega))
theorem TS.row1 {w0 w w1 : World} {rb : Nat} {xs ys : Array Value} {vp vq vr v : Value} {p q r l : List Int} (h : TS w0 w rb xs ys vp vq vr p q r) (hr : Kd.R (Kd.int .u64) 58 w1 w.heap.size (fun _ => True) v l) (k : Below w.heap.size w w1) : TS w0 w1 rb xs ys v vq vr l q r :=
  have h' := h.later k
  ⟨row_TS h hr, h'.q, h'.r, h'.bel, h'.res, h'.rcd, h'.hi⟩
theorem TS.row2 {w0 w w1 : World} {rb : Nat} {xs ys : Array Value} {vp vq vr v : Value} {p q r l : List Int} (h : TS w0 w rb xs ys vp vq vr p q r) (hr : Kd.R (Kd.int .u64) 58 w1 w.heap.size (fun _ => True) v l) (k : Below w.heap.size w w1) : TS w0 w1 rb xs ys vp v vr p l r :=
  have h' := h.later k
  ⟨h'.p, row_TS h hr, h'.r, h'.bel, h'.res, h'.rcd, h'.hi⟩
theorem TS.row3 {w0 w w1 : World} {rb : Nat} {xs ys : Array Value} {vp vq vr v : Value} {p q r l : List Int} (h : TS w0 w rb xs ys vp vq vr p q r) (hr : Kd.R (Kd.int .u64) 58 w1 w.heap.size (fun _ => True) v l) (k : Below w.heap.size w w1) : TS w0 w1 rb xs ys vp vq v p q l :=
  have h' := h.later k
  ⟨h'.p, h'.q, row_TS h hr, h'.bel, h'.res, h'.rcd, h'.hi⟩
end Go.Proofs.YtanjahakoadecaaDoor.Hand
