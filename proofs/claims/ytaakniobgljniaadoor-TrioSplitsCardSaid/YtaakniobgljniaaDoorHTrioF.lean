/- trio.Mod by hand: a product modulo one of the primes. -/
import Derived.Test.YtaakniobgljniaaDoorHTrioE
namespace Go.Proofs.YtaakniobgljniaaDoor.Hand
open Go.RowKit Go.Proofs.YtaakniobgljniaaDoorW.PrintWords Go.Proofs.YtaakniobgljniaaDoorW.PrintMore Go.Proofs.YtaakniobgljniaaDoor.Pa Go.Proofs.YtaakniobgljniaaDoor.Ntt
set_option linter.unusedVariables false
set_option linter.unusedSimpArgs false
attribute [local go_sem] Oper.semAt_some max2_int min2_int max_two min_two
attribute [local go_sem ↓] Go.wp_at_zero Go.wp_at_succ

/-- The package variable holds the three primes. -/
structure PrimesAt (w : World) : Prop where
  a : w.cell? ⟨0, 0, none⟩ = some (.int .u32 998244353)
  b : w.cell? ⟨0, 1, none⟩ = some (.int .u32 167772161)
  c : w.cell? ⟨0, 2, none⟩ = some (.int .u32 469762049)
theorem PrimesAt.later {w w' : World} (h : PrimesAt w) (hb : Below w.heap.size w w') : PrimesAt w' := ⟨cell_later h.a hb, cell_later h.b hb, cell_later h.c hb⟩
theorem PrimesAt.reads {w : World} (h : PrimesAt w) : ReadsInt w .u32 (some ⟨0, 0, none⟩) 3 [998244353, 167772161, 469762049] := by
  refine ⟨rfl, by decide, fun _ => ⟨_, rfl, fun j hj => ?_⟩⟩
  rw [Addr.add_lit, Nat.zero_add]
  match j, hj with
  | 0, _ => exact h.a
  | 1, _ => exact h.b
  | 2, _ => exact h.c
theorem contains_primes (v : Int) (W : World) (h : PrimesAt W) : Calls Tryd.prog 26 #[.slice (some ⟨0, 0, none⟩) 3 3, .int .u32 v] W fun e w' => e = .returned (.bool (decide (v = 998244353 ∨ v = 167772161 ∨ v = 469762049))) ∧ Below W.heap.size W w' := by
  refine (slices_Contains_uint32_uint32.calls 5 (some ⟨0, 0, none⟩) 3 [998244353, 167772161, 469762049] v _ W (Kd.C_of_reads (d := (0 : Int)) (h1 := fun _ => rfl) h.reads) (Nat.le_refl _) (contains_is v)).mono ?_
  rintro e w' ⟨rfl, hd⟩
  exact ⟨rfl, hd.below⟩
theorem places_call (A B : Option Addr) (la lb ca cb : Nat) (a b : List Int) (many N : Int) (W : World) (ha : ReadsInt W .u64 A la a) (hb : ReadsInt W .u64 B lb b) (hca : la ≤ ca) (hcb : lb ≤ cb) (h : trio_places.f 64 a b = some (many, N)) :
    Calls Tryd.prog 25 #[.slice A la ca, .slice B lb cb] W fun e w' => e = .returned (.tuple #[.int .i64 many, .int .i64 N]) ∧ Below W.heap.size W w' := by
  obtain rfl : a.length = la := ha.1
  obtain rfl : b.length = lb := hb.1
  refine (trio_places.calls 64 A ca a B cb b many N W (Kd.C_of_reads (d := (0 : Int)) (h1 := fun _ => rfl) ha) hca (Kd.C_of_reads (d := (0 : Int)) (h1 := fun _ => rfl) hb) hcb h).mono ?_
  rintro e w' ⟨rfl, hd⟩
  exact ⟨rfl, hd.below⟩
theorem run_cut1 (g n c : Nat) (hn : 1 ≤ n) (hc : n ≤ c) : ∃ A, (∀ W, (Instr.slice 25 (.slice (some ⟨g, 0, none⟩) n c) (some (.int .i64 1)) none none).run Tryd.prog W = .ok (.slice A (n - 1) (c - 1)) W) ∧ (A = some ⟨g, 1, none⟩ ∨ n = 1) := by
  obtain ⟨i, hi, hi2⟩ := Option.map_eq_some_iff.1 info32
  simp only [Prod.mk.injEq] at hi2
  have e1 : ∀ (w : World) b, (Instr.sliceBound (.int .i64 1) n b).run Tryd.prog w = .ok 1 w := fun w b => by
    have := run_sliceBound (P := Tryd.prog) w .i64 1 n b (by decide) (by omega)
    exact this
  refine ⟨if c = 1 then some ⟨g, 0, none⟩ else some ((⟨g, 0, none⟩ : Addr).add 1), fun W => ?_, ?_⟩
  · have e : (c - 1 = 0) = (c = 1) := propext ⟨fun h => by omega, fun h => by omega⟩
    simp [Instr.slice, run_underlying Tryd.underlying25, Instr.sliceBounds, e1, sizeOf, typeInfo, hi, Result.andThen, hi2.2.1, e]
  · by_cases h : c = 1
    · exact .inr (by omega)
    · left
      rw [if_neg h, Addr.add_lit]
theorem run_cut32 (A : Option Addr) (n c k : Nat) (hk : k ≤ c) (W : World) :
    (Instr.slice 25 (.slice A n c) none (some (.int .i64 (k : Int))) (some (.int .i64 (k : Int)))).run Tryd.prog W = .ok (.slice A k k) W := by
  have h1 : (0 : Int) ≤ (k : Int) := by omega
  have h2 : (k : Int) ≤ (c : Int) := by omega
  obtain ⟨i, hi, hi2⟩ := Option.map_eq_some_iff.1 info32
  simp only [Prod.mk.injEq] at hi2
  have ha : (if k = 0 then A else A.map (·.add 0)) = A := by
    have : ∀ a : Addr, a.add 0 = a := fun a => by unfold Addr.add; simp
    split
    · rfl
    · cases A <;> simp [this]
  have e1 : ∀ w : World, (Instr.sliceBound (.int .i64 (k : Int)) c .slice3Acap).run Tryd.prog w = .ok k w := fun w => by rw [run_sliceBound _ _ _ _ _ h1 h2, Int.toNat_natCast]
  have e2 : ∀ w : World, (Instr.sliceBound (.int .i64 (k : Int)) k .slice3B).run Tryd.prog w = .ok k w := fun w => by rw [run_sliceBound _ _ _ _ _ h1 (Int.le_refl _), Int.toNat_natCast]
  simp [Instr.slice, run_underlying Tryd.underlying25, Instr.sliceBounds, e1, e2, sizeOf, typeInfo, hi, Result.andThen]
  simpa using ha
/-- A row that is worked through in its place: k of its places are done. -/
structure WorkPart (N k : Nat) (new old : Nat → Int) (row : List Int) : Prop where
  len : row.length = N
  done : ∀ t, t < k → row.getD t 0 = new t
  left : ∀ t, k ≤ t → t < N → row.getD t 0 = old t
theorem WorkPart.first {N : Nat} {new : Nat → Int} {row : List Int} (h : row.length = N) : WorkPart N 0 new (fun t => row.getD t 0) row :=
  ⟨h, fun t ht => absurd ht (Nat.not_lt_zero _), fun t _ _ => rfl⟩
theorem WorkPart.step {N k : Nat} {new old : Nat → Int} {row : List Int} (h : WorkPart N k new old row) (hk : k < N) : WorkPart N (k + 1) new old (row.set k (new k)) := by
  have hl := h.len
  refine ⟨by simp [hl], fun t ht => ?_, fun t ht hN => ?_⟩
  · rw [getD_set32 _ _ _ _ (by omega)]
    split
    · rename_i e; subst e; rfl
    · exact h.done t (by omega)
  · rw [getD_set32 _ _ _ _ (by omega), if_neg (by omega)]
    exact h.left t (by omega) hN
theorem WorkPart.full {N : Nat} {new old : Nat → Int} {row : List Int} (h : WorkPart N N new old row) : row = (List.range N).map new := by
  have hl := h.len
  refine List.ext_getElem (by simp [hl]) fun t h1 h2 => ?_
  have e1 : row[t] = row.getD t 0 := by rw [List.getD_eq_getElem?_getD, List.getElem?_eq_getElem h1]; rfl
  rw [e1, h.done t (by omega)]
  simp
theorem own_set_other {w : World} {g n c g2 k : Nat} {l : List Int} {v : Value} (h : Own32 w g n c l) (hne : g ≠ g2) : Own32 (w.setCell ⟨g2, k, none⟩ v) g n c l := by
  refine ⟨h.1, ?_⟩
  rcases h.2 with hn | ⟨g', cap, cur, e, hB, hg, rest⟩
  · exact .inl hn
  · cases e
    exact .inr ⟨g, c, cur, rfl, hB, (Below.heap_setCell _ _ _ _ (by simpa using hne)).trans hg, rest⟩
theorem own_lt {w : World} {g n c : Nat} {l : List Int} (h : Own32 w g n c l) : g < w.heap.size := (own_in h rfl).2
section
variable {m : Nat}
theorem hl_backs (l : List (Fin m)) : hl (Ntt.backs l) = Ntt.backs (hl l) := by simp [hl, Ntt.backs, List.map_take, List.map_drop]
theorem out_val {n : Nat} (F : Form m n) (one sq : Int) (x : Fin m) : mont_Out.f m n one sq (hv x) = some ((x.val : Nat) : Int) := by
  unfold hv
  rw [out_spec F one sq _ (held_lt F.ge _), out_held F.odd F.ge, Nat.mod_eq_of_lt x.isLt]
theorem hl_row (N : Nat) (f : Nat → Fin m) : hl (row N f) = (List.range N).map fun t => hv (f t) := by simp [hl, row, Function.comp_def]
end
section
variable {m : Nat} [NeZero m]
theorem hv_one : ((4294967296 % m : Nat) : Int) = hv (1 : Fin m) := by
  unfold hv
  rw [one_held m]
  show ((held m 1 : Nat) : Int) = ((held m (1 % m) : Nat) : Int)
  rw [held_mod]
/-- The last row is the rows' product. -/
theorem mod_final (h3 : isPrime3 m) {j N : Nat} (hj : j ≤ 20) (hN : N = 2 ^ j) {a b C PA PB PR QR QB : List (Fin m)} (hC : C.length = N) (hev : ∀ x, ev C x = ev a x * ev b x)
    (hA : PA = tr j a (root m N)) (hB : PB = tr j b (root m N)) (hP : PR = Ntt.row N (fun t => PA.getD t 0 * PB.getD t 0)) (hQ : QR = tr j PR (root m N)) (hQB : QB = Ntt.backs QR) (la : a.length = N) (lb : b.length = N) :
    (C.map fun x => ((x.val : Nat) : Int)) = (List.range N).map fun t => (((QB.getD t 0 * over m N).val : Nat) : Int) := by
  subst hN
  have key : ∀ t, t < 2 ^ j → QB.getD t 0 * over m (2 ^ j) = C.getD t 0 := fun t ht => by
    have h := ntt_conv j (root m (2 ^ j)) a b C (root_root h3 hj) (root_one h3 hj) la lb hC hev t ht
    rw [← hA, ← hB, ← hP, ← hQ, ← hQB] at h
    rw [h, Ntt.rmul_comm, ← Ntt.rmul_assoc, over_ones h3 hj, Ntt.rone_mul]
  refine List.ext_getElem (by simp [hC]) fun t h1 h2 => ?_
  have ht : t < 2 ^ j := by simpa using h2
  simp only [List.getElem_map, List.getElem_range]
  rw [key t ht, List.getD_eq_getElem?_getD, List.getElem?_eq_getElem (by omega)]
  rfl
set_option maxHeartbeats 32000000 in
set_option maxRecDepth 100000 in
theorem mod_main (j many N : Nat) (h3 : isPrime3 m) (hN : N = 2 ^ j) (hj : j ≤ 20) (hmn : many ≤ N) (hm0 : 0 < many) (A B : Option Addr) (la lb ca cb : Nat) (a b : List Int) (C : List (Fin m)) (w : World) (hp : PrimesAt w)
    (ha : ReadsInt w .u64 A la a) (hb : ReadsInt w .u64 B lb b) (hca : la ≤ ca) (hcb : lb ≤ cb) (hia : Num.InB Num.W a) (hib : Num.InB Num.W b) (hla : la ≤ N) (hlb : lb ≤ N)
    (hpl : trio_places.f 64 a b = some ((many : Int), (N : Int))) (hC : C.length = N) (hev : ∀ x, ev C x = ev (pad N a) x * ev (pad N b) x) :
    Calls Tryd.prog 11 #[.slice A la ca, .slice B lb cb, .int .u32 (m : Int)] w fun e w' => ∃ g, e = .returned (.tuple #[.slice (some ⟨g, 0, none⟩) many many, .int .i64 0]) ∧ ReadsInt w' .u32 (some ⟨g, 0, none⟩) many ((C.take many).map fun x => (x.val : Int)) ∧ w.heap.size ≤ g ∧ Below w.heap.size w w' := by
  have ⟨hodd, hm3, hml⟩ := prime3_odd h3
  obtain ⟨n, F, hmk0⟩ := make_form hodd hm3 hml
  have hmk : mont_Make.f (m : Int) = some ((m : Int), (n : Int), hv (1 : Fin m), sqv m, 0) := by rw [hmk0, hv_one]; rfl
  clear hmk0
  have hNb : N ≤ 1048576 := by rw [hN]; exact Nat.le_trans (Nat.pow_le_pow_right (by decide) hj) (by decide)
  have hcon : decide ((m : Int) = 998244353 ∨ (m : Int) = 167772161 ∨ (m : Int) = 469762049) = true := by
    rw [decide_eq_true_iff]
    rcases h3 with rfl | rfl | rfl
    · exact .inl rfl
    · exact .inr (.inl rfl)
    · exact .inr (.inr rfl)
  have HPL := Aside0.mk (places_call A B la lb ca cb a b many N w ha hb hca hcb hpl)
  have HCN := Aside0.mk (fun W h => contains_primes (m : Int) W h)
  rw [hcon] at HCN
  have HMK := Aside0.mk (fun W => mont_Make.calls (m : Int) _ _ _ _ _ W hmk)
  have HA := Aside0.mk ha
  have HB := Aside0.mk hb
  have HPR := Aside0.mk hp
  have hm0' : ((many : Int) == 0) = false := by rw [beq_eq_false_iff_ne]; omega
  have hNN : ¬ (1048576 : Int) < (N : Int) := by omega
  have H3 := Aside0.mk h3
  have HN := Aside0.mk hN
  have HEV := Aside0.mk hev
  clear hcon hmk hp ha hb hpl h3 hN hev
  go_enter Tryd.func11, Tryd.ntmps11
  go_wp2_with (first
    | ((go_at_call 25); (with_reducible refine HPL.out.mono ?_); (rintro e w1 ⟨rfl, hb⟩); (have HB1 := Aside0.mk hb); (clear hb))
    | ((go_at_call 26); (with_reducible refine (HCN.out _ (HPR.out.later (below_alloc HB1.out _))).mono ?_); (rintro e w2 ⟨rfl, hb⟩); (have hbk := blk_below (blk_new _ _) hb); (have qN : w2.cell? ⟨w1.heap.size, 0, none⟩ = some (.int .i64 (N : Int)) := blk_cell hbk 0); (have HNB := Aside0.mk hbk); (have HB2 := Aside0.mk (below_on (below_alloc HB1.out _) hb)); (clear hb hbk))
    | ((go_at_call 27); (with_reducible refine (HMK.out _).mono ?_); (rintro e w3 ⟨rfl, hb⟩); (have HB3 := Aside0.mk hb); (clear hb)))
  rename_i K hK
  obtain ⟨w4, hw4⟩ : ∃ w4, w4 = w3.alloc (.cells #[.int .u32 (m : Int), .int .u32 (n : Int), .int .u32 (hv (1 : Fin m)), .int .u32 (sqv m)] 60) := ⟨_, rfl⟩
  have hx4 : w4.heap[w3.heap.size]? = some (.cells #[.int .u32 (m : Int), .int .u32 (n : Int), .int .u32 (hv (1 : Fin m)), .int .u32 (sqv m)] 60 (0, 0)) := by rw [hw4]; exact blk_new _ _
  have hn4 : w4.heap[w1.heap.size]? = some (.cells #[.int .i64 (N : Int)] 3 (0, 0)) := by rw [hw4]; exact blk_alloc (blk_below HNB.out HB3.out) _
  have hb4 : Below w.heap.size w w4 := by rw [hw4]; exact below_alloc (below_on HB2.out HB3.out) _
  have hs4 : w1.heap.size < w3.heap.size := Nat.lt_of_lt_of_le (blk_lt HNB.out) HB3.out.size
  rw [← hw4]
  obtain ⟨M1, hM1⟩ : ∃ M1, M1 = m - 1 := ⟨_, rfl⟩
  obtain ⟨E, hE⟩ : ∃ E, E = M1 / N := ⟨_, rfl⟩
  have hNp : 0 < N := by omega
  have hEm : E ≤ M1 := by rw [hE]; exact Nat.div_le_self _ _
  have wm : IntKind.u64.wrap (m : Int) = (m : Int) := u64_nat m (by omega)
  have wm1 : IntKind.u64.wrap ((m : Int) - 1) = (M1 : Int) := by rw [IntKind.wrap_u64]; omega
  have wN : IntKind.u64.wrap (N : Int) = (N : Int) := u64_nat N (by omega)
  have tE : Int.tdiv (M1 : Int) (N : Int) = (E : Int) := by rw [hE]; exact tdiv_nat M1 N
  have wE : IntKind.u64.wrap (E : Int) = (E : Int) := u64_nat E (by omega)
  have N0 : ((N : Int) == 0) = false := by rw [beq_eq_false_iff_ne]; omega
  have N1 : ¬ (N : Int) = 0 := by omega
  have N2 : ¬ N = 0 := by omega
  have h3w : hv (fz 3 : Fin m) = ((held m 3 : Nat) : Int) := hv_fz 3
  have hrw : hv (root m N) = ((held m (3 ^ E) : Nat) : Int) := by
    rw [hE, hM1]
    unfold hv root
    rw [Fin.val_ofNat, held_mod]
  have hIn : ∀ W, Calls Tryd.prog 29 #[monV m n (sqv m), .int .u64 3] W fun e w' => e = .returned (.int .u32 (hv (fz 3 : Fin m))) ∧ Below W.heap.size W w' := fun W => mont_In.calls (m : Int) (n : Int) (hv (1 : Fin m)) (sqv m) 3 (hv (fz 3 : Fin m)) W (by rw [h3w]; exact in_spec F (hv (1 : Fin m)) 3 (by decide))
  have hPow : ∀ W, Calls Tryd.prog 28 #[monV m n (sqv m), .int .u32 (hv (fz 3 : Fin m)), .int .u64 (E : Int)] W fun e w' => e = .returned (.int .u32 (hv (root m N))) ∧ Below W.heap.size W w' := fun W => mont_Pow.calls 65 (m : Int) (n : Int) (hv (1 : Fin m)) (sqv m) (hv (fz 3 : Fin m)) (E : Int) (hv (root m N)) W (by
    rw [← hv_one, one_held m, h3w, hrw]
    exact pow_held F (sqv m) 65 3 E (by decide) (by omega))
  have HIN := Aside0.mk hIn
  have HPOW := Aside0.mk hPow
  have X4 := Aside0.mk hx4
  have NB4 := Aside0.mk hn4
  have HB4 := Aside0.mk hb4
  have HS4 := Aside0.mk hs4
  have C0 : Aside0 (w4.cell? ⟨w3.heap.size, 0, none⟩ = some (.int .u32 (m : Int))) := ⟨blk_cell hx4 0⟩
  have C1 : Aside0 (w4.cell? ⟨w3.heap.size, 1, none⟩ = some (.int .u32 (n : Int))) := ⟨blk_cell hx4 1⟩
  have C2 : Aside0 (w4.cell? ⟨w3.heap.size, 2, none⟩ = some (.int .u32 (hv (1 : Fin m)))) := ⟨blk_cell hx4 2⟩
  have C3 : Aside0 (w4.cell? ⟨w3.heap.size, 3, none⟩ = some (.int .u32 (sqv m))) := ⟨blk_cell hx4 3⟩
  have CN : Aside0 (w4.cell? ⟨w1.heap.size, 0, none⟩ = some (.int .i64 (N : Int))) := ⟨blk_cell hn4 0⟩
  have hu60 := Tryd.underlying60
  have HW4 := Aside0.mk hw4
  generalize hgw : w3.heap.size = bx at *
  generalize hgn : w1.heap.size = bn at *
  generalize hv (fz 3 : Fin m) = three at *
  clear h3w hrw hIn hPow hx4 hn4 hb4 hs4 hM1 hE hEm hgw hgn qN HB1 HB2 HB3 HNB HMK HCN HPL HW4 hw4 hNN hm0'
  have HEND : Aside0 (∀ (t3 t4 t5 t10 t12 t14 t15 t16 t17 t18 t19 t20 t21 t22 t23 t24 t25 t26 t27 t28 t29 t30 t31 t32 t33 t34 t35 t36 t37 t38 t39 t40 t41 t42 t43 t44 t45 t46 t47 t48 t49 t50 t51 t52 t53 t54 t55 t56 t57 t58 t59 t60 t61 t62 t63 t64 t65 t66 t67 t68 t69 t70 t71 t72 t73 t74 t75 t76 t77 t78 t79 t80 t81 t82 t83 t84 t85 t86 t87 t88 t89 t90 t91 t92 t93 t94 t95 t96 t97 t98 t99 t100 t101 t102 t103 t104 t105 t106 t107 t108 t109 t110 t111 t112 t113 t114 t115 : Value) (bw : Nat) (W : World), HeldIn W m n N (root m N) bn bx bw → Below w.heap.size w W → K { tmps := #[.slice A la ca, .slice B lb cb, .int .u32 (m : Int), t3, t4, t5, .slice none 0 0, .int .i64 0, .int .i64 (many : Int), .pointer (some ⟨bn, 0, none⟩), t10, .pointer (some ⟨bx, 0, none⟩), t12, .pointer (some ⟨bw, 0, none⟩), t14, t15, t16, t17, t18, t19, t20, t21, t22, t23, t24, t25, t26, t27, t28, t29, t30, t31, t32, t33, t34, t35, t36, t37, t38, t39, t40, t41, t42, t43, t44, t45, t46, t47, t48, t49, t50, t51, t52, t53, t54, t55, t56, t57, t58, t59, t60, t61, t62, t63, t64, t65, t66, t67, t68, t69, t70, t71, t72, t73, t74, t75, t76, t77, t78, t79, t80, t81, t82, t83, t84, t85, t86, t87, t88, t89, t90, t91, t92, t93, t94, t95, t96, t97, t98, t99, t100, t101, t102, t103, t104, t105, t106, t107, t108, t109, t110, t111, t112, t113, t114, t115], defers := [] } W) := ⟨by
    as_aux_lemma =>
    intro t3 t4 t5 t10 t12 t14 t15 t16 t17 t18 t19 t20 t21 t22 t23 t24 t25 t26 t27 t28 t29 t30 t31 t32 t33 t34 t35 t36 t37 t38 t39 t40 t41 t42 t43 t44 t45 t46 t47 t48 t49 t50 t51 t52 t53 t54 t55 t56 t57 t58 t59 t60 t61 t62 t63 t64 t65 t66 t67 t68 t69 t70 t71 t72 t73 t74 t75 t76 t77 t78 t79 t80 t81 t82 t83 t84 t85 t86 t87 t88 t89 t90 t91 t92 t93 t94 t95 t96 t97 t98 t99 t100 t101 t102 t103 t104 t105 t106 t107 t108 t109 t110 t111 t112 t113 t114 t115 bw W hheld hbw
    refine hK _ _ ?_
    have HLD := Aside0.mk hheld
    have HBW := Aside0.mk hbw
    clear hK hheld hbw
    go_wp2_with (first
      | ((go_at_call 30); (with_reducible refine (mod_held n N j F HN.out hj (root m N) bn bx bw A la ca a _ (ReadsInt.below HA.out (by repeat (with_reducible first | exact HBW.out | apply below_on' HB8.out | apply below_on' HB7.out | apply below_drew | apply below_alloc))) hia hla (HLD.out.later (by repeat (with_reducible first | exact Below.refl _ _ | apply below_on' HB8.out | apply below_on' HB7.out | apply below_drew | apply below_alloc)))).mono ?_); (rintro e7 w7 ⟨gp, cp, rfl, ho, hg, hb⟩); (have HOP := Aside0.mk ho); (have HGP := Aside0.mk hg); (have HB7 := Aside0.mk hb); (clear ho hg hb))
      | ((go_at_call 30); (with_reducible refine (mod_held n N j F HN.out hj (root m N) bn bx bw B lb cb b _ (ReadsInt.below HB.out (by repeat (with_reducible first | exact HBW.out | apply below_on' HB8.out | apply below_on' HB7.out | apply below_drew | apply below_alloc))) hib hlb (HLD.out.later (by repeat (with_reducible first | exact Below.refl _ _ | apply below_on' HB8.out | apply below_on' HB7.out | apply below_drew | apply below_alloc)))).mono ?_); (rintro e8 w8 ⟨gq, cq, rfl, ho, hg, hb⟩); (have HOQ := Aside0.mk ho); (have HGQ := Aside0.mk hg); (have HB8 := Aside0.mk hb); (clear ho hg hb)))
    obtain ⟨PA, hPA⟩ : ∃ P, P = tr j (pad N a : List (Fin m)) (root m N) := ⟨_, rfl⟩
    obtain ⟨PB, hPB⟩ : ∃ P, P = tr j (pad N b : List (Fin m)) (root m N) := ⟨_, rfl⟩
    have hop := own_later HOP.out HB8.out
    have hoq := HOQ.out
    rw [← hPA] at hop
    rw [← hPB] at hoq
    have hne : gp ≠ gq := by
      have h1 := own_lt HOP.out
      have h2 := HGQ.out
      omega
    have hWp : W.heap.size ≤ gp := HGP.out
    have hWq : W.heap.size ≤ gq := Nat.le_trans HB7.out.size HGQ.out
    have hB8 : Below W.heap.size W w8 := below_on HB7.out HB8.out
    have lPA : PA.length = N := by rw [hPA, tr_length _ _ _ (by rw [pad_length _ _ (by rw [HA.out.1]; exact hla), HN.out]), HN.out]
    have lPB : PB.length = N := by rw [hPB, tr_length _ _ _ (by rw [pad_length _ _ (by rw [HB.out.1]; exact hlb), HN.out]), HN.out]
    have HO1 := Aside0.mk hop
    have HO2 := Aside0.mk hoq
    have HB9 := Aside0.mk hB8
    have EPA := Aside0.mk hPA
    have EPB := Aside0.mk hPB
    clear hop hoq hB8 hPA hPB HB7 HB8 HOP HOQ HGP HGQ HIN HPOW C0 C1 C2 C3 CN X4 NB4 HB4 HPR
    go_loopw [64] (fun v64 wr => ∃ (k : Nat) (row : List Int), k ≤ N ∧ v64 = .int .i64 (k : Int) ∧ Aside0 (Own32 wr gp N cp row) ∧ Aside0 (Own32 wr gq N cq (hl PB)) ∧ Aside0 (WorkPart N k (fun t => hv (PA.getD t 0 * PB.getD t 0)) (fun t => (hl PA).getD t 0) row) ∧ Aside0 (Below W.heap.size W wr)) (fun v64 _ => N - (intOf v64).toNat)
    case atStart => exact ⟨0, hl PA, Nat.zero_le _, rfl, HO1, HO2, ⟨WorkPart.first (by rw [hl_length, lPA])⟩, HB9⟩
    case round =>
      clear HO1 HO2 HB9
      obtain ⟨k, row, hk, rfl, HR, HQ, HWK, HBR⟩ := hrel
      by_cases hlt : k < N
      · as_aux_lemma =>
        have hxb := (HLD.out.later HBR.out).qx
        have q0 : wr.cell? ⟨bx, 0, none⟩ = some (.int .u32 (m : Int)) := blk_cell hxb 0
        have q1 : wr.cell? ⟨bx, 1, none⟩ = some (.int .u32 (n : Int)) := blk_cell hxb 1
        have q2 : wr.cell? ⟨bx, 2, none⟩ = some (.int .u32 (hv (1 : Fin m))) := blk_cell hxb 2
        have q3 : wr.cell? ⟨bx, 3, none⟩ = some (.int .u32 (sqv m)) := blk_cell hxb 3
        have qp := HR.out.cell k hlt
        rw [HWK.out.left k (Nat.le_refl _) hlt, hl_getD _ _ (by omega)] at qp
        have qq := HQ.out.cell k hlt
        rw [hl_getD _ _ (by omega)] at qq
        have HM := Aside0.mk (fun W => mont_Mul.calls (m : Int) (n : Int) (hv (1 : Fin m)) (sqv m) (hv (PA.getD k 0)) (hv (PB.getD k 0)) (hv (PA.getD k 0 * PB.getD k 0)) W (hv_mul F _ _ _ _))
        have HST := Aside0.mk (HWK.out.step hlt)
        have HRW := Aside0.mk (fun W (hb : Below wr.drew.heap.size wr.drew W) => own_later (show Own32 wr.drew gp N cp row from HR.out) hb)
        generalize hv (PA.getD k 0 * PB.getD k 0) = z at *
        generalize hv (PA.getD k 0) = x at *
        generalize hv (PB.getD k 0) = y at *
        have k0 : (0 : Int) ≤ (k : Int) := by omega
        have k1 : (k : Int) < (N : Int) := by omega
        have HKK : Aside0 ((k : Int) + 1 = ((k + 1 : Nat) : Int)) := ⟨by omega⟩
        have HMS : Aside0 (N - (intOf (Value.int .i64 ((k : Int) + 1))).toNat < N - (intOf (Value.int .i64 (k : Int))).toNat) := ⟨by rw [HKK.out]; simp only [intOf, Int.toNat_natCast]; omega⟩
        clear hxb
        have D0 := Aside0.mk q0
        have D1 := Aside0.mk q1
        have D2 := Aside0.mk q2
        have D3 := Aside0.mk q3
        have DQ := Aside0.mk qq
        have hxg : gp ≠ bx := by
          have h1 := blk_lt HLD.out.qx
          omega
        go_wp2
        refine wp_region_held_drew (S := fun w' => w'.cell? ⟨bx, 0, none⟩ = some (.int .u32 (m : Int)) ∧ w'.cell? ⟨bx, 1, none⟩ = some (.int .u32 (n : Int)) ∧ w'.cell? ⟨bx, 2, none⟩ = some (.int .u32 (hv (1 : Fin m))) ∧ w'.cell? ⟨bx, 3, none⟩ = some (.int .u32 (sqv m)) ∧ w'.cell? ⟨gq, k, none⟩ = some (.int .u32 y)) (by kernel_rfl) ⟨cell_later D0.out (by repeat (with_reducible first | exact Below.refl _ _ | apply below_on' HBM.out | apply below_drew | apply below_alloc)), cell_later D1.out (by repeat (with_reducible first | exact Below.refl _ _ | apply below_on' HBM.out | apply below_drew | apply below_alloc)), cell_later D2.out (by repeat (with_reducible first | exact Below.refl _ _ | apply below_on' HBM.out | apply below_drew | apply below_alloc)), cell_later D3.out (by repeat (with_reducible first | exact Below.refl _ _ | apply below_on' HBM.out | apply below_drew | apply below_alloc)), cell_later DQ.out (by repeat (with_reducible first | exact Below.refl _ _ | apply below_on' HBM.out | apply below_drew | apply below_alloc))⟩ (fun hHeld => ?_)
        (refine wpAnyH_take (i := 0) (v := ?_) rfl (by kernel_rfl) (by kernel_rfl) (by kernel_rfl) (fun _ _ _ h => h) (Or.inl ⟨by rfl, ?_⟩) (by assumption) ?_); rotate_left; (focus (intro w' hSw; (try dsimp only at hSw); first | (go_simp; done) | (go_simp; with_reducible rfl))); (try simp only [Act.put, List.setIfInBounds_toArray, List.set_cons_zero, List.set_cons_succ, List.getElem_toArray, List.getElem_cons_zero, List.getElem_cons_succ])
        (refine wpAnyH_take (i := 1) (v := ?_) rfl (by kernel_rfl) (by kernel_rfl) (by kernel_rfl) (fun _ _ _ h => h) (Or.inl ⟨by rfl, ?_⟩) (by assumption) ?_); rotate_left; (focus (intro w' hSw; (try dsimp only at hSw); first | (go_simp; done) | (go_simp; with_reducible rfl))); (try simp only [Act.put, List.setIfInBounds_toArray, List.set_cons_zero, List.set_cons_succ, List.getElem_toArray, List.getElem_cons_zero, List.getElem_cons_succ])
        (refine wpAnyH_take (i := 2) (v := ?_) rfl (by kernel_rfl) (by kernel_rfl) (by kernel_rfl) (fun _ _ _ h => h) (Or.inl ⟨by rfl, ?_⟩) (by assumption) ?_); rotate_left; (focus (intro w' hSw; (try dsimp only at hSw); first | (go_simp; done) | (go_simp; with_reducible rfl))); (try simp only [Act.put, List.setIfInBounds_toArray, List.set_cons_zero, List.set_cons_succ, List.getElem_toArray, List.getElem_cons_zero, List.getElem_cons_succ])
        (refine wpAnyH_take (i := 3) (v := ?_) rfl (by kernel_rfl) (by kernel_rfl) (by kernel_rfl) (fun _ _ _ h => h) (Or.inl ⟨by rfl, ?_⟩) (by assumption) ?_); rotate_left; (focus (intro w' hSw; (try dsimp only at hSw); first | (go_simp; done) | (go_simp; with_reducible rfl))); (try simp only [Act.put, List.setIfInBounds_toArray, List.set_cons_zero, List.set_cons_succ, List.getElem_toArray, List.getElem_cons_zero, List.getElem_cons_succ])
        (refine wpAnyH_take (i := 4) (v := ?_) rfl (by kernel_rfl) (by kernel_rfl) (by kernel_rfl) (fun _ _ _ h => h) (Or.inl ⟨by rfl, ?_⟩) (by assumption) ?_); rotate_left; (focus (intro w' hSw; (try dsimp only at hSw); first | (go_simp; done) | (go_simp; with_reducible rfl))); (try simp only [Act.put, List.setIfInBounds_toArray, List.set_cons_zero, List.set_cons_succ, List.getElem_toArray, List.getElem_cons_zero, List.getElem_cons_succ])
        (refine wpAnyH_take (i := 5) (v := ?_) rfl (by kernel_rfl) (by kernel_rfl) (by kernel_rfl) (fun _ _ _ h => h) (Or.inl ⟨by rfl, ?_⟩) (by assumption) ?_); rotate_left; (focus (intro w' hSw; (try dsimp only at hSw); first | (go_simp; done) | (go_simp; with_reducible rfl))); (try simp only [Act.put, List.setIfInBounds_toArray, List.set_cons_zero, List.set_cons_succ, List.getElem_toArray, List.getElem_cons_zero, List.getElem_cons_succ])
        (refine wpAnyH_take (i := 7) (v := ?_) rfl (by kernel_rfl) (by kernel_rfl) (by kernel_rfl) (fun _ _ _ h => h) (Or.inl ⟨by rfl, ?_⟩) (by assumption) ?_); rotate_left; (focus (intro w' hSw; (try dsimp only at hSw); first | (go_simp; done) | (go_simp; with_reducible rfl))); (try simp only [Act.put, List.setIfInBounds_toArray, List.set_cons_zero, List.set_cons_succ, List.getElem_toArray, List.getElem_cons_zero, List.getElem_cons_succ])
        (refine wpAnyH_take (i := 8) (v := ?_) rfl (by kernel_rfl) (by kernel_rfl) (by kernel_rfl) (fun _ _ _ h => h) (Or.inl ⟨by rfl, ?_⟩) (by assumption) ?_); rotate_left; (focus (intro w' hSw; (try dsimp only at hSw); first | (go_simp; done) | (go_simp; with_reducible rfl))); (try simp only [Act.put, List.setIfInBounds_toArray, List.set_cons_zero, List.set_cons_succ, List.getElem_toArray, List.getElem_cons_zero, List.getElem_cons_succ])
        (refine wpAnyH_take (i := 9) (v := ?_) rfl (by kernel_rfl) (by kernel_rfl) (by kernel_rfl) (fun _ _ _ h => h) (Or.inl ⟨by rfl, ?_⟩) (by assumption) ?_); rotate_left; (focus (intro w' hSw; (try dsimp only at hSw); first | (go_simp; done) | (go_simp; with_reducible rfl))); (try simp only [Act.put, List.setIfInBounds_toArray, List.set_cons_zero, List.set_cons_succ, List.getElem_toArray, List.getElem_cons_zero, List.getElem_cons_succ])
        (refine wpAnyH_take (i := 10) (v := ?_) rfl (by kernel_rfl) (by kernel_rfl) (by kernel_rfl) (fun _ _ _ h => h) (Or.inl ⟨by rfl, ?_⟩) (by assumption) ?_); rotate_left; (focus (intro w' hSw; (try dsimp only at hSw); first | (go_simp; done) | (go_simp; with_reducible rfl))); (try simp only [Act.put, List.setIfInBounds_toArray, List.set_cons_zero, List.set_cons_succ, List.getElem_toArray, List.getElem_cons_zero, List.getElem_cons_succ])
        refine wpAnyH_ready (rs := [6]) (by kernel_rfl) (by simp) ?_
        refine AllReadyH.cons rfl (fun K hK => ?_) AllReadyH.nil
        go_simp
        refine hK.out _ _ ⟨cell_later D0.out (by repeat (with_reducible first | exact Below.refl _ _ | apply below_on' HBM.out | apply below_drew | apply below_alloc)), cell_later D1.out (by repeat (with_reducible first | exact Below.refl _ _ | apply below_on' HBM.out | apply below_drew | apply below_alloc)), cell_later D2.out (by repeat (with_reducible first | exact Below.refl _ _ | apply below_on' HBM.out | apply below_drew | apply below_alloc)), cell_later D3.out (by repeat (with_reducible first | exact Below.refl _ _ | apply below_on' HBM.out | apply below_drew | apply below_alloc)), cell_later DQ.out (by repeat (with_reducible first | exact Below.refl _ _ | apply below_on' HBM.out | apply below_drew | apply below_alloc))⟩ (fun hHeld2 => ?_)
        clear hK K
        (try simp only [Act.put, List.setIfInBounds_toArray, List.set_cons_zero, List.set_cons_succ, List.getElem_toArray, List.getElem_cons_zero, List.getElem_cons_succ])
        refine wpAnyH_ready (rs := [11]) (by kernel_rfl) (by simp) ?_
        refine AllReadyH.cons rfl (fun K hK => ?_) AllReadyH.nil
        go_simp
        refine (HM.out _).mono ?_
        rintro e9 w9 ⟨rfl, hb⟩
        have HBM := Aside0.mk hb
        have hbm : Below wr.heap.size wr w9 := (by repeat (with_reducible first | exact Below.refl _ _ | apply below_on' HBM.out | apply below_drew | apply below_alloc))
        have E0 := Aside0.mk (cell_later D0.out hbm)
        have E1 := Aside0.mk (cell_later D1.out hbm)
        have E2 := Aside0.mk (cell_later D2.out hbm)
        have E3 := Aside0.mk (cell_later D3.out hbm)
        have E4 := Aside0.mk (cell_later DQ.out hbm)
        have z9 := Own32.cell (HRW.out _ hb) k hlt
        have y9 := Own32.frozen (HRW.out _ hb) k
        clear hb hbm
        refine hK.out _ _ ⟨cell_later D0.out (by repeat (with_reducible first | exact Below.refl _ _ | apply below_on' HBM.out | apply below_drew | apply below_alloc)), cell_later D1.out (by repeat (with_reducible first | exact Below.refl _ _ | apply below_on' HBM.out | apply below_drew | apply below_alloc)), cell_later D2.out (by repeat (with_reducible first | exact Below.refl _ _ | apply below_on' HBM.out | apply below_drew | apply below_alloc)), cell_later D3.out (by repeat (with_reducible first | exact Below.refl _ _ | apply below_on' HBM.out | apply below_drew | apply below_alloc)), cell_later DQ.out (by repeat (with_reducible first | exact Below.refl _ _ | apply below_on' HBM.out | apply below_drew | apply below_alloc))⟩ (fun hHeld3 => ?_)
        clear hK K
        (try simp only [Act.put, List.setIfInBounds_toArray, List.set_cons_zero, List.set_cons_succ, List.getElem_toArray, List.getElem_cons_zero, List.getElem_cons_succ])
        (refine wpAnyH_take (i := 12) (v := ?_) rfl (by kernel_rfl) (by kernel_rfl) (by kernel_rfl) (fun _ _ _ h => h) (Or.inl ⟨by rfl, ?_⟩) (by assumption) ?_); rotate_left; (focus (intro w' hSw; (try dsimp only at hSw); first | (go_simp; done) | (go_simp; with_reducible rfl))); (try simp only [Act.put, List.setIfInBounds_toArray, List.set_cons_zero, List.set_cons_succ, List.getElem_toArray, List.getElem_cons_zero, List.getElem_cons_succ])
        refine wpAnyH_ready (rs := [13]) (by kernel_rfl) (by simp) ?_
        refine AllReadyH.cons rfl (fun K hK => ?_) AllReadyH.nil
        go_simp
        refine hK.out _ _ ⟨(World.cell?_setCell_far w9 _ _ _ hxg).trans E0.out, (World.cell?_setCell_far w9 _ _ _ hxg).trans E1.out, (World.cell?_setCell_far w9 _ _ _ hxg).trans E2.out, (World.cell?_setCell_far w9 _ _ _ hxg).trans E3.out, (World.cell?_setCell_far w9 _ _ _ (Ne.symm (Ne.symm hne))).trans E4.out⟩ (fun hHeld4 => ?_)
        clear hK K
        (try simp only [Act.put, List.setIfInBounds_toArray, List.set_cons_zero, List.set_cons_succ, List.getElem_toArray, List.getElem_cons_zero, List.getElem_cons_succ])
        refine wpAnyH_done (by kernel_rfl) ?_ _
        all_goals
          go_wp2
          refine ⟨⟨k + 1, _, hlt, by rw [HKK.out], ⟨Own32.set (HRW.out _ HBM.out) k z⟩, ⟨own_set_other (own_later (show Own32 wr.drew gq N cq _ from HQ.out) HBM.out) (Ne.symm hne)⟩, HST, ⟨set_below (below_on (show Below W.heap.size W wr.drew from HBR.out.drew) HBM.out) hWp⟩⟩, HMS.out⟩
      · obtain rfl : N = k := by omega
        have hxb := (HLD.out.later HBR.out).qx
        have q0 : wr.cell? ⟨bx, 0, none⟩ = some (.int .u32 (m : Int)) := blk_cell hxb 0
        have q1 : wr.cell? ⟨bx, 1, none⟩ = some (.int .u32 (n : Int)) := blk_cell hxb 1
        have q2 : wr.cell? ⟨bx, 2, none⟩ = some (.int .u32 (hv (1 : Fin m))) := blk_cell hxb 2
        have q3 : wr.cell? ⟨bx, 3, none⟩ = some (.int .u32 (sqv m)) := blk_cell hxb 3
        have qw : wr.cell? ⟨bw, 0, none⟩ = some (.int .u32 (hv (root m N))) := (HLD.out.later HBR.out).qw
        have hrow := HWK.out.full
        have hor := HR.out
        rw [hrow, ← hl_row] at hor
        obtain ⟨PR, hPR⟩ : ∃ P, P = Ntt.row N (fun t => PA.getD t 0 * PB.getD t 0) := ⟨_, rfl⟩
        rw [← hPR] at hor
        have lPR : PR.length = N := by rw [hPR, Ntt.row_length]
        have HOR := Aside0.mk hor
        have EPR := Aside0.mk hPR
        have htr : ∀ W, Own32 W gp N cp (hl PR) → Calls Tryd.prog 31 #[monV m n (sqv m), .slice (some ⟨gp, 0, none⟩) N cp, .int .u32 (hv (root m N))] W fun e w' => ∃ g' c', e = .returned (.slice (some ⟨g', 0, none⟩) N c') ∧ Own32 w' g' N c' (hl (tr j PR (root m N))) ∧ (g' = gp ∨ W.heap.size ≤ g') ∧ Below W.heap.size W w' := fun W ho => by
          have h := transform_tells n (sqv m) F j (by omega) (.slice (some ⟨gp, 0, none⟩) N cp) PR (root m N) W (by rw [lPR, HN.out]) (by rw [← HN.out]; exact ho)
          refine h.mono ?_
          rintro e w' ⟨v', rfl, h1, h2, h3⟩
          rw [← HN.out] at h1
          obtain ⟨g', c', rfl, _, _⟩ := h1.form hNp
          refine ⟨g', c', rfl, h1, ?_, h3⟩
          rcases h2 with e | ⟨g2, e, hg⟩
          · cases e; exact .inl rfl
          · cases e; exact .inr hg
        have HTR := Aside0.mk htr
        clear hxb hrow hor hPR htr HR HQ HWK
        obtain ⟨QR, hQR⟩ : ∃ Q, Q = tr j PR (root m N) := ⟨_, rfl⟩
        rw [← hQR] at HTR
        have EQR := Aside0.mk hQR
        have lQR : QR.length = N := by rw [hQR, tr_length _ _ _ (by rw [lPR, HN.out]), HN.out]
        clear hQR
        have HBR2 := HBR
        as_aux_lemma =>
        go_wp2_with (first
          | ((go_at_call 31); (with_reducible refine (HTR.out _ HOR.out).mono ?_); (rintro e9 w9 ⟨gt, ct, rfl, ho, hg, hb⟩); (have HGW : Aside0 (W.heap.size ≤ gt) := ⟨by rcases hg with h | h; (· rw [h]; exact hWp); (· exact Nat.le_trans HBR.out.size h)⟩); (obtain ⟨cur, _, hkc, _⟩ := Own32.block ho); (obtain ⟨A1, hcut1, hA1⟩ := run_cut1 gt N ct hNp hkc); (have HA1 := Aside0.mk hA1); (clear hA1); (have HOT := Aside0.mk ho); (have HB9 := Aside0.mk (below_on HBR.out hb)); (clear ho hg hb))
          | ((go_at_call 33); (with_reducible refine (reverse_any gt N ct _ _ (hl QR) _ HOT.out (Nat.succ_le_of_lt hNp) (Nat.le_trans hNb (by decide)) HA1.out).mono ?_); (rintro e10 w10 ⟨rfl, ho, hb⟩); (have HOV := Aside0.mk ho); (have HB10 := Aside0.mk (HB9.out.trans (hb.mono HGW.out))); (clear ho hb)))
        have hov := HOV.out
        rw [← hl_backs] at hov
        obtain ⟨QB, hQB⟩ : ∃ Q, Q = Ntt.backs QR := ⟨_, rfl⟩
        rw [← hQB] at hov
        have lQB : QB.length = N := by rw [hQB, Ntt.backs_length, lQR]
        have hh10 := HLD.out.later HB10.out
        obtain ⟨iv, hiv⟩ : ∃ iv, iv = N ^ (m - 2) % m := ⟨_, rfl⟩
        have hivl : iv < 18446744073709551616 := by rw [hiv]; exact Nat.lt_of_lt_of_le (Nat.mod_lt _ (by omega)) (by omega)
        have hInv : ∀ W, Calls Tryd.prog 34 #[.int .u64 (N : Int), .int .u32 (m : Int)] W fun e w' => e = .returned (.int .u64 (iv : Int)) ∧ Below W.heap.size W w' := fun W => by
          rw [hiv]
          exact trio_inverse.calls 65 (N : Int) (m : Int) _ W (inverse_is hodd hm3 hml 65 N (by decide) (by omega))
        have hov2 : hv (over m N) = ((held m iv : Nat) : Int) := by
          rw [hiv]
          unfold hv over
          rw [Fin.val_ofNat]
        have hIn2 : ∀ W, Calls Tryd.prog 29 #[monV m n (sqv m), .int .u64 (iv : Int)] W fun e w' => e = .returned (.int .u32 (hv (over m N))) ∧ Below W.heap.size W w' := fun W => mont_In.calls (m : Int) (n : Int) (hv (1 : Fin m)) (sqv m) (iv : Int) (hv (over m N)) W (by rw [hov2]; exact in_spec F (hv (1 : Fin m)) iv hivl)
        have C0 : Aside0 (w10.cell? ⟨bx, 0, none⟩ = some (.int .u32 (m : Int))) := ⟨blk_cell hh10.qx 0⟩
        have C1 : Aside0 (w10.cell? ⟨bx, 1, none⟩ = some (.int .u32 (n : Int))) := ⟨blk_cell hh10.qx 1⟩
        have C2 : Aside0 (w10.cell? ⟨bx, 2, none⟩ = some (.int .u32 (hv (1 : Fin m)))) := ⟨blk_cell hh10.qx 2⟩
        have C3 : Aside0 (w10.cell? ⟨bx, 3, none⟩ = some (.int .u32 (sqv m))) := ⟨blk_cell hh10.qx 3⟩
        have CN : Aside0 (w10.cell? ⟨bn, 0, none⟩ = some (.int .i64 (N : Int))) := ⟨hh10.qn⟩
        have HINV := Aside0.mk hInv
        have HIN2 := Aside0.mk hIn2
        have HOQ := Aside0.mk hov
        have EQB := Aside0.mk hQB
        clear hov hh10 hiv hivl hInv hov2 hIn2 hQB HOV HOT q0 q1 q2 q3 qw HOR HTR HBR HBR2 hcut1 HB9
        as_aux_lemma =>
        go_wp2
        go_region_held3 (fun w' => w'.cell? ⟨bx, 0, none⟩ = some (.int .u32 (m : Int)) ∧ w'.cell? ⟨bx, 1, none⟩ = some (.int .u32 (n : Int)) ∧ w'.cell? ⟨bx, 2, none⟩ = some (.int .u32 (hv (1 : Fin m))) ∧ w'.cell? ⟨bx, 3, none⟩ = some (.int .u32 (sqv m)) ∧ w'.cell? ⟨bn, 0, none⟩ = some (.int .i64 (N : Int)))
          (exact ⟨cell_later C0.out (by repeat (with_reducible first | exact Below.refl _ _ | apply below_on' HB12.out | apply below_on' HB11.out | apply below_drew | apply below_alloc)), cell_later C1.out (by repeat (with_reducible first | exact Below.refl _ _ | apply below_on' HB12.out | apply below_on' HB11.out | apply below_drew | apply below_alloc)), cell_later C2.out (by repeat (with_reducible first | exact Below.refl _ _ | apply below_on' HB12.out | apply below_on' HB11.out | apply below_drew | apply below_alloc)), cell_later C3.out (by repeat (with_reducible first | exact Below.refl _ _ | apply below_on' HB12.out | apply below_on' HB11.out | apply below_drew | apply below_alloc)), cell_later CN.out (by repeat (with_reducible first | exact Below.refl _ _ | apply below_on' HB12.out | apply below_on' HB11.out | apply below_drew | apply below_alloc))⟩)
          (first
            | ((go_at_call 34); (with_reducible refine (HINV.out _).mono ?_); (rintro e11 w11 ⟨rfl, hb⟩); (have HB11 := Aside0.mk hb); (clear hb))
            | ((go_at_call 29); (with_reducible refine (HIN2.out _).mono ?_); (rintro e12 w12 ⟨rfl, hb⟩); (have HB12 := Aside0.mk hb); (clear hb)))
        have hb12 : Below w10.heap.size w10 w12 := (by repeat (with_reducible first | exact Below.refl _ _ | apply below_on' HB12.out | apply below_on' HB11.out | apply below_drew | apply below_alloc))
        have HO12 := Aside0.mk (own_later HOQ.out hb12)
        have HBW12 := Aside0.mk (HB10.out.trans (hb12.mono HB10.out.size))
        clear hb12 C0 C1 C2 C3 CN HINV HIN2 HOQ HB11 HB12 HB10
        as_aux_lemma =>
        go_wp2
        go_loopw [96] (fun v96 wr => ∃ (k : Nat) (row : List Int), k ≤ N ∧ v96 = .int .i64 (k : Int) ∧ Aside0 (Own32 wr gt N ct row) ∧ Aside0 (WorkPart N k (fun t => (((QB.getD t 0 * over m N).val : Nat) : Int)) (fun t => (hl QB).getD t 0) row) ∧ Aside0 (Below W.heap.size W wr)) (fun v96 _ => N - (intOf v96).toNat)
        case atStart => exact ⟨0, hl QB, Nat.zero_le _, rfl, HO12, ⟨WorkPart.first (by rw [hl_length, lQB])⟩, HBW12⟩
        case round =>
          clear HO12 HBW12
          obtain ⟨k, row, hk, rfl, HR, HWK, HBR⟩ := hrel
          by_cases hlt : k < N
          · as_aux_lemma =>
            have hxb := (HLD.out.later HBR.out).qx
            have q0 : wr.cell? ⟨bx, 0, none⟩ = some (.int .u32 (m : Int)) := blk_cell hxb 0
            have q1 : wr.cell? ⟨bx, 1, none⟩ = some (.int .u32 (n : Int)) := blk_cell hxb 1
            have q2 : wr.cell? ⟨bx, 2, none⟩ = some (.int .u32 (hv (1 : Fin m))) := blk_cell hxb 2
            have q3 : wr.cell? ⟨bx, 3, none⟩ = some (.int .u32 (sqv m)) := blk_cell hxb 3
            have qp := HR.out.cell k hlt
            rw [HWK.out.left k (Nat.le_refl _) hlt, hl_getD _ _ (by omega)] at qp
            have HM := Aside0.mk (fun W => mont_Mul.calls (m : Int) (n : Int) (hv (1 : Fin m)) (sqv m) (hv (QB.getD k 0)) (hv (over m N)) (hv (QB.getD k 0 * over m N)) W (hv_mul F _ _ _ _))
            have HU := Aside0.mk (fun W => mont_Out.calls (m : Int) (n : Int) (hv (1 : Fin m)) (sqv m) (hv (QB.getD k 0 * over m N)) (((QB.getD k 0 * over m N).val : Nat) : Int) W (out_val F _ _ _))
            have HST := Aside0.mk (HWK.out.step hlt)
            have HRW := Aside0.mk (fun W W2 (hb : Below wr.drew.heap.size wr.drew W) (hb2 : Below W.heap.size W W2) => own_later (own_later (show Own32 wr.drew gt N ct row from HR.out) hb) hb2)
            have HXX := Aside0.mk (fun W (hb : Below wr.drew.heap.size wr.drew W) => blk_below (show wr.drew.heap[bx]? = _ from hxb) hb)
            generalize hv (QB.getD k 0 * over m N) = z at *
            generalize (((QB.getD k 0 * over m N).val : Nat) : Int) = u at *
            generalize hv (QB.getD k 0) = x at *
            generalize hv (over m N) = y at *
            have k0 : (0 : Int) ≤ (k : Int) := by omega
            have k1 : (k : Int) < (N : Int) := by omega
            have HKK : Aside0 ((k : Int) + 1 = ((k + 1 : Nat) : Int)) := ⟨by omega⟩
            have HMS : Aside0 (N - (intOf (Value.int .i64 ((k : Int) + 1))).toNat < N - (intOf (Value.int .i64 (k : Int))).toNat) := ⟨by rw [HKK.out]; simp only [intOf, Int.toNat_natCast]; omega⟩
            clear hxb
            have D0 := Aside0.mk q0
            have D1 := Aside0.mk q1
            have D2 := Aside0.mk q2
            have D3 := Aside0.mk q3
            have hxg : gt ≠ bx := by
              have h1 := blk_lt HLD.out.qx
              have h2 := HGW.out
              omega
            go_wp2
            refine wp_region_held_drew (S := fun w' => w'.cell? ⟨bx, 0, none⟩ = some (.int .u32 (m : Int)) ∧ w'.cell? ⟨bx, 1, none⟩ = some (.int .u32 (n : Int)) ∧ w'.cell? ⟨bx, 2, none⟩ = some (.int .u32 (hv (1 : Fin m))) ∧ w'.cell? ⟨bx, 3, none⟩ = some (.int .u32 (sqv m))) (by kernel_rfl) ⟨cell_later D0.out (by repeat (with_reducible first | exact Below.refl _ _ | apply below_on' HBU.out | apply below_on' HBM.out | apply below_drew | apply below_alloc)), cell_later D1.out (by repeat (with_reducible first | exact Below.refl _ _ | apply below_on' HBU.out | apply below_on' HBM.out | apply below_drew | apply below_alloc)), cell_later D2.out (by repeat (with_reducible first | exact Below.refl _ _ | apply below_on' HBU.out | apply below_on' HBM.out | apply below_drew | apply below_alloc)), cell_later D3.out (by repeat (with_reducible first | exact Below.refl _ _ | apply below_on' HBU.out | apply below_on' HBM.out | apply below_drew | apply below_alloc))⟩ (fun hHeld => ?_)
            (refine wpAnyH_take (i := 0) (v := ?_) rfl (by kernel_rfl) (by kernel_rfl) (by kernel_rfl) (fun _ _ _ h => h) (Or.inl ⟨by rfl, ?_⟩) (by assumption) ?_); rotate_left; (focus (intro w' hSw; (try dsimp only at hSw); first | (go_simp; done) | (go_simp; with_reducible rfl))); (try simp only [Act.put, List.setIfInBounds_toArray, List.set_cons_zero, List.set_cons_succ, List.getElem_toArray, List.getElem_cons_zero, List.getElem_cons_succ])
            (refine wpAnyH_take (i := 1) (v := ?_) rfl (by kernel_rfl) (by kernel_rfl) (by kernel_rfl) (fun _ _ _ h => h) (Or.inl ⟨by rfl, ?_⟩) (by assumption) ?_); rotate_left; (focus (intro w' hSw; (try dsimp only at hSw); first | (go_simp; done) | (go_simp; with_reducible rfl))); (try simp only [Act.put, List.setIfInBounds_toArray, List.set_cons_zero, List.set_cons_succ, List.getElem_toArray, List.getElem_cons_zero, List.getElem_cons_succ])
            (refine wpAnyH_take (i := 2) (v := ?_) rfl (by kernel_rfl) (by kernel_rfl) (by kernel_rfl) (fun _ _ _ h => h) (Or.inl ⟨by rfl, ?_⟩) (by assumption) ?_); rotate_left; (focus (intro w' hSw; (try dsimp only at hSw); first | (go_simp; done) | (go_simp; with_reducible rfl))); (try simp only [Act.put, List.setIfInBounds_toArray, List.set_cons_zero, List.set_cons_succ, List.getElem_toArray, List.getElem_cons_zero, List.getElem_cons_succ])
            (refine wpAnyH_take (i := 3) (v := ?_) rfl (by kernel_rfl) (by kernel_rfl) (by kernel_rfl) (fun _ _ _ h => h) (Or.inl ⟨by rfl, ?_⟩) (by assumption) ?_); rotate_left; (focus (intro w' hSw; (try dsimp only at hSw); first | (go_simp; done) | (go_simp; with_reducible rfl))); (try simp only [Act.put, List.setIfInBounds_toArray, List.set_cons_zero, List.set_cons_succ, List.getElem_toArray, List.getElem_cons_zero, List.getElem_cons_succ])
            (refine wpAnyH_take (i := 4) (v := ?_) rfl (by kernel_rfl) (by kernel_rfl) (by kernel_rfl) (fun _ _ _ h => h) (Or.inl ⟨by rfl, ?_⟩) (by assumption) ?_); rotate_left; (focus (intro w' hSw; (try dsimp only at hSw); first | (go_simp; done) | (go_simp; with_reducible rfl))); (try simp only [Act.put, List.setIfInBounds_toArray, List.set_cons_zero, List.set_cons_succ, List.getElem_toArray, List.getElem_cons_zero, List.getElem_cons_succ])
            (refine wpAnyH_take (i := 5) (v := ?_) rfl (by kernel_rfl) (by kernel_rfl) (by kernel_rfl) (fun _ _ _ h => h) (Or.inl ⟨by rfl, ?_⟩) (by assumption) ?_); rotate_left; (focus (intro w' hSw; (try dsimp only at hSw); first | (go_simp; done) | (go_simp; with_reducible rfl))); (try simp only [Act.put, List.setIfInBounds_toArray, List.set_cons_zero, List.set_cons_succ, List.getElem_toArray, List.getElem_cons_zero, List.getElem_cons_succ])
            (refine wpAnyH_take (i := 6) (v := ?_) rfl (by kernel_rfl) (by kernel_rfl) (by kernel_rfl) (fun _ _ _ h => h) (Or.inl ⟨by rfl, ?_⟩) (by assumption) ?_); rotate_left; (focus (intro w' hSw; (try dsimp only at hSw); first | (go_simp; done) | (go_simp; with_reducible rfl))); (try simp only [Act.put, List.setIfInBounds_toArray, List.set_cons_zero, List.set_cons_succ, List.getElem_toArray, List.getElem_cons_zero, List.getElem_cons_succ])
            (refine wpAnyH_take (i := 8) (v := ?_) rfl (by kernel_rfl) (by kernel_rfl) (by kernel_rfl) (fun _ _ _ h => h) (Or.inl ⟨by rfl, ?_⟩) (by assumption) ?_); rotate_left; (focus (intro w' hSw; (try dsimp only at hSw); first | (go_simp; done) | (go_simp; with_reducible rfl))); (try simp only [Act.put, List.setIfInBounds_toArray, List.set_cons_zero, List.set_cons_succ, List.getElem_toArray, List.getElem_cons_zero, List.getElem_cons_succ])
            refine wpAnyH_ready (rs := [7]) (by kernel_rfl) (by simp) ?_
            refine AllReadyH.cons rfl (fun K hK => ?_) AllReadyH.nil
            go_simp
            refine hK.out _ _ ⟨cell_later D0.out (by repeat (with_reducible first | exact Below.refl _ _ | apply below_on' HBU.out | apply below_on' HBM.out | apply below_drew | apply below_alloc)), cell_later D1.out (by repeat (with_reducible first | exact Below.refl _ _ | apply below_on' HBU.out | apply below_on' HBM.out | apply below_drew | apply below_alloc)), cell_later D2.out (by repeat (with_reducible first | exact Below.refl _ _ | apply below_on' HBU.out | apply below_on' HBM.out | apply below_drew | apply below_alloc)), cell_later D3.out (by repeat (with_reducible first | exact Below.refl _ _ | apply below_on' HBU.out | apply below_on' HBM.out | apply below_drew | apply below_alloc))⟩ (fun hHeld2 => ?_)
            clear hK K
            (try simp only [Act.put, List.setIfInBounds_toArray, List.set_cons_zero, List.set_cons_succ, List.getElem_toArray, List.getElem_cons_zero, List.getElem_cons_succ])
            refine wpAnyH_ready (rs := [9]) (by kernel_rfl) (by simp) ?_
            refine AllReadyH.cons rfl (fun K hK => ?_) AllReadyH.nil
            go_simp
            refine (HM.out _).mono ?_
            rintro e9 w9 ⟨rfl, hb⟩
            have HBM := Aside0.mk hb
            clear hb
            refine hK.out _ _ ⟨cell_later D0.out (by repeat (with_reducible first | exact Below.refl _ _ | apply below_on' HBU.out | apply below_on' HBM.out | apply below_drew | apply below_alloc)), cell_later D1.out (by repeat (with_reducible first | exact Below.refl _ _ | apply below_on' HBU.out | apply below_on' HBM.out | apply below_drew | apply below_alloc)), cell_later D2.out (by repeat (with_reducible first | exact Below.refl _ _ | apply below_on' HBU.out | apply below_on' HBM.out | apply below_drew | apply below_alloc)), cell_later D3.out (by repeat (with_reducible first | exact Below.refl _ _ | apply below_on' HBU.out | apply below_on' HBM.out | apply below_drew | apply below_alloc))⟩ (fun hHeld3 => ?_)
            clear hK K
            (try simp only [Act.put, List.setIfInBounds_toArray, List.set_cons_zero, List.set_cons_succ, List.getElem_toArray, List.getElem_cons_zero, List.getElem_cons_succ])
            refine wpAnyH_ready (rs := [10]) (by kernel_rfl) (by simp) ?_
            refine AllReadyH.cons rfl (fun K hK => ?_) AllReadyH.nil
            go_simp
            refine (HU.out _).mono ?_
            rintro e10 w11 ⟨rfl, hb⟩
            have HBU := Aside0.mk hb
            have hbm : Below wr.heap.size wr w11 := (by repeat (with_reducible first | exact Below.refl _ _ | apply below_on' HBU.out | apply below_on' HBM.out | apply below_drew | apply below_alloc))
            have E0 := Aside0.mk (cell_later D0.out hbm)
            have E1 := Aside0.mk (cell_later D1.out hbm)
            have E2 := Aside0.mk (cell_later D2.out hbm)
            have E3 := Aside0.mk (cell_later D3.out hbm)
            have z9 := Own32.cell (HRW.out _ _ HBM.out hb) k hlt
            have y9 := Own32.frozen (HRW.out _ _ HBM.out hb) k
            clear hb hbm
            refine hK.out _ _ ⟨cell_later D0.out (by repeat (with_reducible first | exact Below.refl _ _ | apply below_on' HBU.out | apply below_on' HBM.out | apply below_drew | apply below_alloc)), cell_later D1.out (by repeat (with_reducible first | exact Below.refl _ _ | apply below_on' HBU.out | apply below_on' HBM.out | apply below_drew | apply below_alloc)), cell_later D2.out (by repeat (with_reducible first | exact Below.refl _ _ | apply below_on' HBU.out | apply below_on' HBM.out | apply below_drew | apply below_alloc)), cell_later D3.out (by repeat (with_reducible first | exact Below.refl _ _ | apply below_on' HBU.out | apply below_on' HBM.out | apply below_drew | apply below_alloc))⟩ (fun hHeld4 => ?_)
            clear hK K
            (try simp only [Act.put, List.setIfInBounds_toArray, List.set_cons_zero, List.set_cons_succ, List.getElem_toArray, List.getElem_cons_zero, List.getElem_cons_succ])
            (refine wpAnyH_take (i := 11) (v := ?_) rfl (by kernel_rfl) (by kernel_rfl) (by kernel_rfl) (fun _ _ _ h => h) (Or.inl ⟨by rfl, ?_⟩) (by assumption) ?_); rotate_left; (focus (intro w' hSw; (try dsimp only at hSw); first | (go_simp; done) | (go_simp; with_reducible rfl))); (try simp only [Act.put, List.setIfInBounds_toArray, List.set_cons_zero, List.set_cons_succ, List.getElem_toArray, List.getElem_cons_zero, List.getElem_cons_succ])
            refine wpAnyH_ready (rs := [12]) (by kernel_rfl) (by simp) ?_
            refine AllReadyH.cons rfl (fun K hK => ?_) AllReadyH.nil
            go_simp
            refine hK.out _ _ ⟨(World.cell?_setCell_far w11 _ _ _ hxg).trans E0.out, (World.cell?_setCell_far w11 _ _ _ hxg).trans E1.out, (World.cell?_setCell_far w11 _ _ _ hxg).trans E2.out, (World.cell?_setCell_far w11 _ _ _ hxg).trans E3.out⟩ (fun hHeld5 => ?_)
            clear hK K
            (try simp only [Act.put, List.setIfInBounds_toArray, List.set_cons_zero, List.set_cons_succ, List.getElem_toArray, List.getElem_cons_zero, List.getElem_cons_succ])
            refine wpAnyH_done (by kernel_rfl) ?_ _
            all_goals
              go_wp2
              refine ⟨⟨k + 1, _, hlt, by rw [HKK.out], ⟨Own32.set (HRW.out _ _ HBM.out HBU.out) k u⟩, HST, ⟨set_below (below_on (below_on (show Below W.heap.size W wr.drew from HBR.out.drew) HBM.out) HBU.out) HGW.out⟩⟩, HMS.out⟩
          · as_aux_lemma =>
            obtain rfl : N = k := by omega
            have hcut3 := fun W => run_cut32 (some ⟨gt, 0, none⟩) N ct many (by obtain ⟨cur, _, hkc, _⟩ := Own32.block HR.out; omega) W
            go_wp2
            refine bodyPost_ret (results_tmp2 rfl _ _ _) rfl ?_
            refine ⟨gt, rfl, ?_, Nat.le_trans HBW.out.size HGW.out, below_on HBW.out HBR.out⟩
            have hrow := HWK.out.full
            have hC2 := mod_final H3.out hj HN.out hC HEV.out EPA.out EPB.out EPR.out EQR.out EQB.out (by rw [pad_length _ _ (by rw [HA.out.1]; exact hla)]) (by rw [pad_length _ _ (by rw [HB.out.1]; exact hlb)])
            rw [← hC2] at hrow
            have hr := own_reads' (show wr.ownsRow 0 23 1 (.slice (some ⟨gt, 0, none⟩) N ct) N (nums .u32 row) from HR.out)
            rw [hrow] at hr
            have := ReadsInt.take_ hr many hmn
            rwa [← List.map_take] at this⟩
  as_aux_lemma =>
  go_region_held3 (fun w' => w'.cell? ⟨bx, 0, none⟩ = some (.int .u32 (m : Int)) ∧ w'.cell? ⟨bx, 1, none⟩ = some (.int .u32 (n : Int)) ∧ w'.cell? ⟨bx, 2, none⟩ = some (.int .u32 (hv (1 : Fin m))) ∧ w'.cell? ⟨bx, 3, none⟩ = some (.int .u32 (sqv m)) ∧ w'.cell? ⟨bn, 0, none⟩ = some (.int .i64 (N : Int)))
    (exact ⟨cell_later C0.out (by repeat (with_reducible first | exact Below.refl _ _ | apply below_on' HB6.out | apply below_on' HB5.out | apply below_drew | apply below_alloc | refine set_below ?_ (Nat.le_refl _) | refine set_below ?_ HS5.out)), cell_later C1.out (by repeat (with_reducible first | exact Below.refl _ _ | apply below_on' HB6.out | apply below_on' HB5.out | apply below_drew | apply below_alloc | refine set_below ?_ (Nat.le_refl _) | refine set_below ?_ HS5.out)), cell_later C2.out (by repeat (with_reducible first | exact Below.refl _ _ | apply below_on' HB6.out | apply below_on' HB5.out | apply below_drew | apply below_alloc | refine set_below ?_ (Nat.le_refl _) | refine set_below ?_ HS5.out)), cell_later C3.out (by repeat (with_reducible first | exact Below.refl _ _ | apply below_on' HB6.out | apply below_on' HB5.out | apply below_drew | apply below_alloc | refine set_below ?_ (Nat.le_refl _) | refine set_below ?_ HS5.out)), cell_later CN.out (by repeat (with_reducible first | exact Below.refl _ _ | apply below_on' HB6.out | apply below_on' HB5.out | apply below_drew | apply below_alloc | refine set_below ?_ (Nat.le_refl _) | refine set_below ?_ HS5.out))⟩)
    (first
      | ((go_at_call 29); (with_reducible refine (HIN.out _).mono ?_); (rintro e5 w5 ⟨rfl, hb⟩); (have HB5 := Aside0.mk hb); (have HS5 : Aside0 (w4.heap.size ≤ w5.heap.size) := ⟨by have := hb.size; simp at this; omega⟩); (try (have b5 : w5.heap[w4.heap.size]? = some (.cells #[.int .u32 0] 23 (0, 0)) := (hb.block _ (by simp)).trans (blk_new w4 (.cells #[.int .u32 0] 23)))); (clear hb))
      | ((go_at_call 28); (with_reducible refine (HPOW.out _).mono ?_); (rintro e6 w6 ⟨rfl, hb⟩); (have HB6 := Aside0.mk hb); (try (have z6 : w6.cell? ⟨w4.heap.size, 0, none⟩ = some (.int .u32 0) := blk_cell (blk_below b5 hb) 0)); (try (have y6 : w6.frozen? ⟨w4.heap.size, 0, none⟩ = false := blk_frozen (blk_below b5 hb) 0)); (try (have z6 : w6.cell? ⟨w5.heap.size, 0, none⟩ = some (.int .u32 0) := cell_later (blk_cell (blk_new _ _) 0) hb)); (try (have y6 : w6.frozen? ⟨w5.heap.size, 0, none⟩ = false := blk_frozen (blk_below (blk_new _ _) hb) 0)); (clear hb)))
  · exact HEND.out _ _ _ _ _ _ _ _ _ _ _ _ _ _ _ _ _ _ _ _ _ _ _ _ _ _ _ _ _ _ _ _ _ _ _ _ _ _ _ _ _ _ _ _ _ _ _ _ _ _ _ _ _ _ _ _ _ _ _ _ _ _ _ _ _ _ _ _ _ _ _ _ _ _ _ _ _ _ _ _ _ _ _ _ _ _ _ _ _ _ _ _ _ _ _ _ _ _ _ _ _ _ _ _ _ _ _ w6.heap.size _ ⟨blk_cell (blk_below NB4.out (by repeat (with_reducible first | exact Below.refl _ _ | apply below_on' HB6.out | apply below_on' HB5.out | apply below_drew | apply below_alloc | refine set_below ?_ (Nat.le_refl _) | refine set_below ?_ HS5.out))) 0, blk_below X4.out (by repeat (with_reducible first | exact Below.refl _ _ | apply below_on' HB6.out | apply below_on' HB5.out | apply below_drew | apply below_alloc | refine set_below ?_ (Nat.le_refl _) | refine set_below ?_ HS5.out)), blk_cell (blk_new _ _) 0⟩ (below_on HB4.out (by repeat (with_reducible first | exact Below.refl _ _ | apply below_on' HB6.out | apply below_on' HB5.out | apply below_drew | apply below_alloc | refine set_below ?_ (Nat.le_refl _) | refine set_below ?_ HS5.out)))
  · exact HEND.out _ _ _ _ _ _ _ _ _ _ _ _ _ _ _ _ _ _ _ _ _ _ _ _ _ _ _ _ _ _ _ _ _ _ _ _ _ _ _ _ _ _ _ _ _ _ _ _ _ _ _ _ _ _ _ _ _ _ _ _ _ _ _ _ _ _ _ _ _ _ _ _ _ _ _ _ _ _ _ _ _ _ _ _ _ _ _ _ _ _ _ _ _ _ _ _ _ _ _ _ _ _ _ _ _ _ _ w5.heap.size _ ⟨blk_cell (blk_below NB4.out (by repeat (with_reducible first | exact Below.refl _ _ | apply below_on' HB6.out | apply below_on' HB5.out | apply below_drew | apply below_alloc | refine set_below ?_ (Nat.le_refl _) | refine set_below ?_ HS5.out))) 0, blk_below X4.out (by repeat (with_reducible first | exact Below.refl _ _ | apply below_on' HB6.out | apply below_on' HB5.out | apply below_drew | apply below_alloc | refine set_below ?_ (Nat.le_refl _) | refine set_below ?_ HS5.out)), World.cell?_setCell_same _ _ _ z6⟩ (below_on HB4.out (by repeat (with_reducible first | exact Below.refl _ _ | apply below_on' HB6.out | apply below_on' HB5.out | apply below_drew | apply below_alloc | refine set_below ?_ (Nat.le_refl _) | refine set_below ?_ HS5.out)))
  · exact HEND.out _ _ _ _ _ _ _ _ _ _ _ _ _ _ _ _ _ _ _ _ _ _ _ _ _ _ _ _ _ _ _ _ _ _ _ _ _ _ _ _ _ _ _ _ _ _ _ _ _ _ _ _ _ _ _ _ _ _ _ _ _ _ _ _ _ _ _ _ _ _ _ _ _ _ _ _ _ _ _ _ _ _ _ _ _ _ _ _ _ _ _ _ _ _ _ _ _ _ _ _ _ _ _ _ _ _ _ w4.heap.size _ ⟨blk_cell (blk_below NB4.out (by repeat (with_reducible first | exact Below.refl _ _ | apply below_on' HB6.out | apply below_on' HB5.out | apply below_drew | apply below_alloc | refine set_below ?_ (Nat.le_refl _) | refine set_below ?_ HS5.out))) 0, blk_below X4.out (by repeat (with_reducible first | exact Below.refl _ _ | apply below_on' HB6.out | apply below_on' HB5.out | apply below_drew | apply below_alloc | refine set_below ?_ (Nat.le_refl _) | refine set_below ?_ HS5.out)), World.cell?_setCell_same _ _ _ z6⟩ (below_on HB4.out (by repeat (with_reducible first | exact Below.refl _ _ | apply below_on' HB6.out | apply below_on' HB5.out | apply below_drew | apply below_alloc | refine set_below ?_ (Nat.le_refl _) | refine set_below ?_ HS5.out)))
end
end Go.Proofs.YtaakniobgljniaaDoor.Hand
