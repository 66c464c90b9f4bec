/- Law 14: the document's Take, walked: one theorem for each way out. -/
import Derived.Test.YtanjahakoadecaaDoorHCrcM
import Derived.Deep.DeepCutAuto
namespace Go.Proofs.YtanjahakoadecaaDoor.Hand
open Go.RowKit Go.Proofs.YtanjahakoadecaaDoorW.PrintWords Go.Proofs.YtanjahakoadecaaDoorW.PrintLast Go.Proofs.YtanjahakoadecaaDoorW.PrintMore Go.Proofs.YtanjahakoadecaaDoor.Num Go.Proofs.YtanjahakoadecaaDoor.Pure
set_option linter.unusedVariables false
set_option linter.unusedSimpArgs false

theorem back_ret {P : Program} {Q : Exit → Act → World → Prop} {K : Act → World → Prop} {a : Act} {w : World} (hK : ∀ (a : Act) (w : World), Code.wp P Code.ret Q a w → K a w) (h : Q .ret a w) : K a w := hK a w (wp_ret h)
set_option maxRecDepth 100000 in
set_option maxHeartbeats 4000000 in
theorem ref_take_short (s : ByteArray) (w : World) (h8 : s.size < 8) : Calls Tryd.prog 14 #[.string s] w (TakeT (noneR, 5) w) := by
  have hl : (s.size : Int) < 8 := by omega
  go_enter Tryd.func14, Tryd.ntmps14
  go_wp2
  refine bodyPost_ret (results_ct rfl _ _ w.heap.size 34 _ (0, 0) _ rfl (blk_new w _) Tryd.underlying34 rfl (by kernel_rfl)) rfl ?_
  exact tellsT_none (below_alloc (Below.refl _ _) _)
set_option maxRecDepth 100000 in
set_option maxHeartbeats 4000000 in
theorem ref_take_sum (s : ByteArray) (w : World) (h8 : 8 ≤ s.size) (hs : s.size ≤ 4611686018427387904) (hne : numF (bl (s.extract (s.size - 4) s.size)) 0 ≠ crcL (bl (s.extract 0 (s.size - 4)))) : Calls Tryd.prog 14 #[.string s] w (TakeT (noneR, 7) w) := by
  have hz1 : (s.extract (s.size - 4) s.size).size = 4 := by rw [ByteArray.size_extract]; omega
  have hz2 : (s.extract 0 (s.size - 4)).size = s.size - 4 := by rw [ByteArray.size_extract]; omega
  have h1 := fun W => ref_number (s.extract (s.size - 4) s.size) W (by omega)
  have h2 := fun W => ref_sum (s.extract 0 (s.size - 4)) W (by omega)
  have hx : numF (bl (s.extract (s.size - 4) s.size)) 0 < 4294967296 := by
    have := Pure.numF_lt (bl (s.extract (s.size - 4) s.size))
    rw [bl_len, hz1] at this
    exact this
  have hy : crcL (bl (s.extract 0 (s.size - 4))) < 4294967296 := crcL_lt _
  generalize numF (bl (s.extract (s.size - 4) s.size)) 0 = x at *
  generalize crcL (bl (s.extract 0 (s.size - 4))) = y at *
  obtain ⟨n, hn⟩ : ∃ n, n = s.size - 4 := ⟨_, rfl⟩
  rw [← hn] at h1 h2
  have hsn : (s.size : Int) - 4 = (n : Int) := by omega
  have hsw : IntKind.i64.wrap ((s.size : Int) - 4) = (n : Int) := by rw [IntKind.wrap_i64]; omega
  have h80 : ¬ (s.size : Int) < 8 := by omega
  have hl : (4 : Int) ≤ (n : Int) := by omega
  have hlo : (0 : Int) ≤ (n : Int) := by omega
  have hhi : (n : Int) ≤ (s.size : Int) := by omega
  have h4 : (4 : Int) ≤ (s.size : Int) := by omega
  have hw : IntKind.u64.wrap (y : Int) = (y : Int) := by rw [IntKind.wrap_u64]; omega
  have H1 := Aside0.mk h1
  have H2 := Aside0.mk h2
  have hbn : ((x : Int) != (y : Int)) = true := by simp only [bne_iff_ne, ne_eq, Int.ofNat_inj]; exact hne
  clear hn hz1 hz2 h1 h2
  go_enter Tryd.func14, Tryd.ntmps14
  go_wp2
  go_region_held3 (fun _ => True) (exact trivial)
    (first
      | ((go_at_call 29); (with_reducible refine (H1.out _).mono ?_); (rintro e w1 ⟨rfl, rfl⟩))
      | ((go_at_call 19); (with_reducible refine (H2.out _).mono ?_); (rintro e w1 ⟨rfl, n2, rfl⟩)))
  all_goals
    have hres : ((w.alloc (.cells #[.int .i64 0, .int .i64 0, .int .i64 0, .int .i64 0, .int .i64 0, .slice none 0 0, .slice none 0 0, .slice none 0 0, .bool false] 34)).drewN (1 + n2)).heap[w.heap.size]? = some (.cells #[.int .i64 0, .int .i64 0, .int .i64 0, .int .i64 0, .int .i64 0, .slice none 0 0, .slice none 0 0, .slice none 0 0, .bool false] 34 (0, 0)) := blk_new w _
    have hbel : Below w.heap.size w ((w.alloc (.cells #[.int .i64 0, .int .i64 0, .int .i64 0, .int .i64 0, .int .i64 0, .slice none 0 0, .slice none 0 0, .slice none 0 0, .bool false] 34)).drewN (1 + n2)) := pw_below_drewN (below_alloc (Below.refl _ _) _) _
    obtain ⟨W, hW⟩ : ∃ W, W = ((w.alloc (.cells #[.int .i64 0, .int .i64 0, .int .i64 0, .int .i64 0, .int .i64 0, .slice none 0 0, .slice none 0 0, .slice none 0 0, .bool false] 34)).drewN (1 + n2)) := ⟨_, rfl⟩
    rw [← hW] at hres hbel ⊢
    clear hW
    have y0 := blk_cell hres 0
    have y1 := blk_cell hres 1
    have y2 := blk_cell hres 2
    have y3 := blk_cell hres 3
    have y4 := blk_cell hres 4
    have y5 := blk_cell hres 5
    have y6 := blk_cell hres 6
    have y7 := blk_cell hres 7
    have y8 := blk_cell hres 8
    have x0 := blk_frozen hres 0
    have x1 := blk_frozen hres 1
    have x2 := blk_frozen hres 2
    have x3 := blk_frozen hres 3
    have x4 := blk_frozen hres 4
    have x5 := blk_frozen hres 5
    have x6 := blk_frozen hres 6
    have x7 := blk_frozen hres 7
    have x8 := blk_frozen hres 8
    have HRES := Aside0.mk hres
    have HBEL := Aside0.mk hbel
    clear hres hbel
    go_wp2
    have hv0 : Zr w W w.heap.size := ⟨HBEL.out, HRES.out, Nat.le_refl _⟩
    have hv1 : Zr w _ w.heap.size := hv0.put 0 (.int .i64 0) rfl
    have hv2 : Zr w _ w.heap.size := hv1.put 1 (.int .i64 0) rfl
    have hv3 : Zr w _ w.heap.size := hv2.put 2 (.int .i64 0) rfl
    have hv4 : Zr w _ w.heap.size := hv3.put 3 (.int .i64 0) rfl
    have hv5 : Zr w _ w.heap.size := hv4.put 4 (.int .i64 0) rfl
    have hv6 : Zr w _ w.heap.size := hv5.put 5 (.slice none 0 0) rfl
    have hv7 : Zr w _ w.heap.size := hv6.put 6 (.slice none 0 0) rfl
    have hv8 : Zr w _ w.heap.size := hv7.put 7 (.slice none 0 0) rfl
    have hv9 : Zr w _ w.heap.size := hv8.put 8 (.bool false) rfl
    refine bodyPost_ret (results_ct rfl _ _ w.heap.size 34 _ (0, 0) _ rfl hv9.res Tryd.underlying34 rfl (by kernel_rfl)) rfl ?_
    exact tellsT_none hv9.bel
set_option maxRecDepth 100000 in
set_option maxHeartbeats 4000000 in
theorem ref_take_form (s : ByteArray) (w : World) (h8 : 8 ≤ s.size) (hs : s.size ≤ 4611686018427387904) (heq : numF (bl (s.extract (s.size - 4) s.size)) 0 = crcL (bl (s.extract 0 (s.size - 4)))) (hne : ((s.extract 0 4).toList == [84, 65, 76, 89]) = false) : Calls Tryd.prog 14 #[.string s] w (TakeT (noneR, 6) w) := by
  have hz1 : (s.extract (s.size - 4) s.size).size = 4 := by rw [ByteArray.size_extract]; omega
  have hz2 : (s.extract 0 (s.size - 4)).size = s.size - 4 := by rw [ByteArray.size_extract]; omega
  have h1 := fun W => ref_number (s.extract (s.size - 4) s.size) W (by omega)
  have h2 := fun W => ref_sum (s.extract 0 (s.size - 4)) W (by omega)
  have hx : numF (bl (s.extract (s.size - 4) s.size)) 0 < 4294967296 := by
    have := Pure.numF_lt (bl (s.extract (s.size - 4) s.size))
    rw [bl_len, hz1] at this
    exact this
  have hy : crcL (bl (s.extract 0 (s.size - 4))) < 4294967296 := crcL_lt _
  generalize numF (bl (s.extract (s.size - 4) s.size)) 0 = x at *
  generalize crcL (bl (s.extract 0 (s.size - 4))) = y at *
  obtain ⟨n, hn⟩ : ∃ n, n = s.size - 4 := ⟨_, rfl⟩
  rw [← hn] at h1 h2
  have hsn : (s.size : Int) - 4 = (n : Int) := by omega
  have hsw : IntKind.i64.wrap ((s.size : Int) - 4) = (n : Int) := by rw [IntKind.wrap_i64]; omega
  have h80 : ¬ (s.size : Int) < 8 := by omega
  have hl : (4 : Int) ≤ (n : Int) := by omega
  have hlo : (0 : Int) ≤ (n : Int) := by omega
  have hhi : (n : Int) ≤ (s.size : Int) := by omega
  have h4 : (4 : Int) ≤ (s.size : Int) := by omega
  have hw : IntKind.u64.wrap (y : Int) = (y : Int) := by rw [IntKind.wrap_u64]; omega
  have H1 := Aside0.mk h1
  have H2 := Aside0.mk h2
  obtain rfl : x = y := heq
  have hbn : ((x : Int) != (x : Int)) = false := by simp
  clear hn hz1 hz2 h1 h2
  go_enter Tryd.func14, Tryd.ntmps14
  go_wp2
  go_region_held3 (fun _ => True) (exact trivial)
    (first
      | ((go_at_call 29); (with_reducible refine (H1.out _).mono ?_); (rintro e w1 ⟨rfl, rfl⟩))
      | ((go_at_call 19); (with_reducible refine (H2.out _).mono ?_); (rintro e w1 ⟨rfl, n2, rfl⟩)))
  all_goals
    have hres : ((w.alloc (.cells #[.int .i64 0, .int .i64 0, .int .i64 0, .int .i64 0, .int .i64 0, .slice none 0 0, .slice none 0 0, .slice none 0 0, .bool false] 34)).drewN (1 + n2)).heap[w.heap.size]? = some (.cells #[.int .i64 0, .int .i64 0, .int .i64 0, .int .i64 0, .int .i64 0, .slice none 0 0, .slice none 0 0, .slice none 0 0, .bool false] 34 (0, 0)) := blk_new w _
    have hbel : Below w.heap.size w ((w.alloc (.cells #[.int .i64 0, .int .i64 0, .int .i64 0, .int .i64 0, .int .i64 0, .slice none 0 0, .slice none 0 0, .slice none 0 0, .bool false] 34)).drewN (1 + n2)) := pw_below_drewN (below_alloc (Below.refl _ _) _) _
    obtain ⟨W, hW⟩ : ∃ W, W = ((w.alloc (.cells #[.int .i64 0, .int .i64 0, .int .i64 0, .int .i64 0, .int .i64 0, .slice none 0 0, .slice none 0 0, .slice none 0 0, .bool false] 34)).drewN (1 + n2)) := ⟨_, rfl⟩
    rw [← hW] at hres hbel ⊢
    clear hW
    have y0 := blk_cell hres 0
    have y1 := blk_cell hres 1
    have y2 := blk_cell hres 2
    have y3 := blk_cell hres 3
    have y4 := blk_cell hres 4
    have y5 := blk_cell hres 5
    have y6 := blk_cell hres 6
    have y7 := blk_cell hres 7
    have y8 := blk_cell hres 8
    have x0 := blk_frozen hres 0
    have x1 := blk_frozen hres 1
    have x2 := blk_frozen hres 2
    have x3 := blk_frozen hres 3
    have x4 := blk_frozen hres 4
    have x5 := blk_frozen hres 5
    have x6 := blk_frozen hres 6
    have x7 := blk_frozen hres 7
    have x8 := blk_frozen hres 8
    have HRES := Aside0.mk hres
    have HBEL := Aside0.mk hbel
    clear hres hbel
    go_wp2
    have hv0 : Zr w W w.heap.size := ⟨HBEL.out, HRES.out, Nat.le_refl _⟩
    have hv1 : Zr w _ w.heap.size := hv0.put 0 (.int .i64 0) rfl
    have hv2 : Zr w _ w.heap.size := hv1.put 1 (.int .i64 0) rfl
    have hv3 : Zr w _ w.heap.size := hv2.put 2 (.int .i64 0) rfl
    have hv4 : Zr w _ w.heap.size := hv3.put 3 (.int .i64 0) rfl
    have hv5 : Zr w _ w.heap.size := hv4.put 4 (.int .i64 0) rfl
    have hv6 : Zr w _ w.heap.size := hv5.put 5 (.slice none 0 0) rfl
    have hv7 : Zr w _ w.heap.size := hv6.put 6 (.slice none 0 0) rfl
    have hv8 : Zr w _ w.heap.size := hv7.put 7 (.slice none 0 0) rfl
    have hv9 : Zr w _ w.heap.size := hv8.put 8 (.bool false) rfl
    refine bodyPost_ret (results_ct rfl _ _ w.heap.size 34 _ (0, 0) _ rfl hv9.res Tryd.underlying34 rfl (by kernel_rfl)) rfl ?_
    exact tellsT_none hv9.bel
set_option maxRecDepth 100000 in
set_option maxHeartbeats 4000000 in
theorem ref_take_few (s : ByteArray) (w : World) (h8 : 8 ≤ s.size) (hs : s.size ≤ 4611686018427387904) (heq : numF (bl (s.extract (s.size - 4) s.size)) 0 = crcL (bl (s.extract 0 (s.size - 4)))) (hfm : ((s.extract 0 4).toList == [84, 65, 76, 89]) = true) (hB : (s.extract 4 (s.size - 4)).size < 18) : Calls Tryd.prog 14 #[.string s] w (TakeT (noneR, 5) w) := by
  have hz1 : (s.extract (s.size - 4) s.size).size = 4 := by rw [ByteArray.size_extract]; omega
  have hz2 : (s.extract 0 (s.size - 4)).size = s.size - 4 := by rw [ByteArray.size_extract]; omega
  have h1 := fun W => ref_number (s.extract (s.size - 4) s.size) W (by omega)
  have h2 := fun W => ref_sum (s.extract 0 (s.size - 4)) W (by omega)
  have hx : numF (bl (s.extract (s.size - 4) s.size)) 0 < 4294967296 := by
    have := Pure.numF_lt (bl (s.extract (s.size - 4) s.size))
    rw [bl_len, hz1] at this
    exact this
  have hy : crcL (bl (s.extract 0 (s.size - 4))) < 4294967296 := crcL_lt _
  generalize numF (bl (s.extract (s.size - 4) s.size)) 0 = x at *
  generalize crcL (bl (s.extract 0 (s.size - 4))) = y at *
  obtain ⟨n, hn⟩ : ∃ n, n = s.size - 4 := ⟨_, rfl⟩
  rw [← hn] at h1 h2
  have hsn : (s.size : Int) - 4 = (n : Int) := by omega
  have hsw : IntKind.i64.wrap ((s.size : Int) - 4) = (n : Int) := by rw [IntKind.wrap_i64]; omega
  have h80 : ¬ (s.size : Int) < 8 := by omega
  have hl : (4 : Int) ≤ (n : Int) := by omega
  have hlo : (0 : Int) ≤ (n : Int) := by omega
  have hhi : (n : Int) ≤ (s.size : Int) := by omega
  have h4 : (4 : Int) ≤ (s.size : Int) := by omega
  have hw : IntKind.u64.wrap (y : Int) = (y : Int) := by rw [IntKind.wrap_u64]; omega
  have H1 := Aside0.mk h1
  have H2 := Aside0.mk h2
  obtain rfl : x = y := heq
  have hbn : ((x : Int) != (x : Int)) = false := by simp
  rw [← hn] at hB
  obtain ⟨B, hE⟩ : ∃ B, s.extract 4 n = B := ⟨_, rfl⟩
  rw [hE] at hB
  have hB1 : (B.size : Int) < 18 := by omega
  clear hn hz1 hz2 h1 h2
  go_enter Tryd.func14, Tryd.ntmps14
  go_wp2
  go_region_held3 (fun _ => True) (exact trivial)
    (first
      | ((go_at_call 29); (with_reducible refine (H1.out _).mono ?_); (rintro e w1 ⟨rfl, rfl⟩))
      | ((go_at_call 19); (with_reducible refine (H2.out _).mono ?_); (rintro e w1 ⟨rfl, n2, rfl⟩)))
  all_goals
    have hres : ((w.alloc (.cells #[.int .i64 0, .int .i64 0, .int .i64 0, .int .i64 0, .int .i64 0, .slice none 0 0, .slice none 0 0, .slice none 0 0, .bool false] 34)).drewN (1 + n2)).heap[w.heap.size]? = some (.cells #[.int .i64 0, .int .i64 0, .int .i64 0, .int .i64 0, .int .i64 0, .slice none 0 0, .slice none 0 0, .slice none 0 0, .bool false] 34 (0, 0)) := blk_new w _
    have hbel : Below w.heap.size w ((w.alloc (.cells #[.int .i64 0, .int .i64 0, .int .i64 0, .int .i64 0, .int .i64 0, .slice none 0 0, .slice none 0 0, .slice none 0 0, .bool false] 34)).drewN (1 + n2)) := pw_below_drewN (below_alloc (Below.refl _ _) _) _
    obtain ⟨W, hW⟩ : ∃ W, W = ((w.alloc (.cells #[.int .i64 0, .int .i64 0, .int .i64 0, .int .i64 0, .int .i64 0, .slice none 0 0, .slice none 0 0, .slice none 0 0, .bool false] 34)).drewN (1 + n2)) := ⟨_, rfl⟩
    rw [← hW] at hres hbel ⊢
    clear hW
    have y0 := blk_cell hres 0
    have y1 := blk_cell hres 1
    have y2 := blk_cell hres 2
    have y3 := blk_cell hres 3
    have y4 := blk_cell hres 4
    have y5 := blk_cell hres 5
    have y6 := blk_cell hres 6
    have y7 := blk_cell hres 7
    have y8 := blk_cell hres 8
    have x0 := blk_frozen hres 0
    have x1 := blk_frozen hres 1
    have x2 := blk_frozen hres 2
    have x3 := blk_frozen hres 3
    have x4 := blk_frozen hres 4
    have x5 := blk_frozen hres 5
    have x6 := blk_frozen hres 6
    have x7 := blk_frozen hres 7
    have x8 := blk_frozen hres 8
    have HRES := Aside0.mk hres
    have HBEL := Aside0.mk hbel
    clear hres hbel
    go_wp2
    have hv0 : Zr w W w.heap.size := ⟨HBEL.out, HRES.out, Nat.le_refl _⟩
    have hv1 : Zr w _ w.heap.size := hv0.put 0 (.int .i64 0) rfl
    have hv2 : Zr w _ w.heap.size := hv1.put 1 (.int .i64 0) rfl
    have hv3 : Zr w _ w.heap.size := hv2.put 2 (.int .i64 0) rfl
    have hv4 : Zr w _ w.heap.size := hv3.put 3 (.int .i64 0) rfl
    have hv5 : Zr w _ w.heap.size := hv4.put 4 (.int .i64 0) rfl
    have hv6 : Zr w _ w.heap.size := hv5.put 5 (.slice none 0 0) rfl
    have hv7 : Zr w _ w.heap.size := hv6.put 6 (.slice none 0 0) rfl
    have hv8 : Zr w _ w.heap.size := hv7.put 7 (.slice none 0 0) rfl
    have hv9 : Zr w _ w.heap.size := hv8.put 8 (.bool false) rfl
    refine bodyPost_ret (results_ct rfl _ _ w.heap.size 34 _ (0, 0) _ rfl hv9.res Tryd.underlying34 rfl (by kernel_rfl)) rfl ?_
    exact tellsT_none hv9.bel
set_option maxRecDepth 100000 in
set_option maxHeartbeats 4000000 in
theorem ref_take_rest (s : ByteArray) (w : World) (h8 : 8 ≤ s.size) (hs : s.size ≤ 4611686018427387904) (heq : numF (bl (s.extract (s.size - 4) s.size)) 0 = crcL (bl (s.extract 0 (s.size - 4)))) (hfm : ((s.extract 0 4).toList == [84, 65, 76, 89]) = true) (hB : 18 ≤ (s.extract 4 (s.size - 4)).size) : Calls Tryd.prog 14 #[.string s] w (TakeT (tkB (s.extract 4 (s.size - 4))) w) := by
  have hz1 : (s.extract (s.size - 4) s.size).size = 4 := by rw [ByteArray.size_extract]; omega
  have hz2 : (s.extract 0 (s.size - 4)).size = s.size - 4 := by rw [ByteArray.size_extract]; omega
  have h1 := fun W => ref_number (s.extract (s.size - 4) s.size) W (by omega)
  have h2 := fun W => ref_sum (s.extract 0 (s.size - 4)) W (by omega)
  have hx : numF (bl (s.extract (s.size - 4) s.size)) 0 < 4294967296 := by
    have := Pure.numF_lt (bl (s.extract (s.size - 4) s.size))
    rw [bl_len, hz1] at this
    exact this
  have hy : crcL (bl (s.extract 0 (s.size - 4))) < 4294967296 := crcL_lt _
  generalize numF (bl (s.extract (s.size - 4) s.size)) 0 = x at *
  generalize crcL (bl (s.extract 0 (s.size - 4))) = y at *
  obtain ⟨n, hn⟩ : ∃ n, n = s.size - 4 := ⟨_, rfl⟩
  rw [← hn] at h1 h2
  have hsn : (s.size : Int) - 4 = (n : Int) := by omega
  have hsw : IntKind.i64.wrap ((s.size : Int) - 4) = (n : Int) := by rw [IntKind.wrap_i64]; omega
  have h80 : ¬ (s.size : Int) < 8 := by omega
  have hl : (4 : Int) ≤ (n : Int) := by omega
  have hlo : (0 : Int) ≤ (n : Int) := by omega
  have hhi : (n : Int) ≤ (s.size : Int) := by omega
  have h4 : (4 : Int) ≤ (s.size : Int) := by omega
  have hw : IntKind.u64.wrap (y : Int) = (y : Int) := by rw [IntKind.wrap_u64]; omega
  have H1 := Aside0.mk h1
  have H2 := Aside0.mk h2
  obtain rfl : x = y := heq
  have hbn : ((x : Int) != (x : Int)) = false := by simp
  rw [← hn] at hB ⊢
  obtain ⟨B, hE⟩ : ∃ B, s.extract 4 n = B := ⟨_, rfl⟩
  rw [hE] at hB ⊢
  have hr1 := ref_takeRow (B.extract 18 B.size)
  rcases hq1 : rowRef (B.extract 18 B.size) with ⟨P, S1, e1⟩
  rw [hq1] at hr1
  have hr2 := ref_takeRow S1
  rcases hq2 : rowRef S1 with ⟨Q, S2, e2⟩
  rw [hq2] at hr2
  have hr3 := ref_takeRow S2
  rcases hq3 : rowRef S2 with ⟨R, S3, e3⟩
  rw [hq3] at hr3
  have HR1 := Aside0.mk hr1
  have HR2 := Aside0.mk hr2
  have HR3 := Aside0.mk hr3
  have HQ1 := Aside0.mk hq1
  have HQ2 := Aside0.mk hq2
  have HQ3 := Aside0.mk hq3
  clear hr1 hr2 hr3 hq1 hq2 hq3
  have hB0 : ¬ (B.size : Int) < 18 := by omega
  have HB18 : Aside0 (¬ B.size < 18) := ⟨by omega⟩
  have hd := fun W => ref_number (B.extract 1 5) W (by rw [ByteArray.size_extract]; omega)
  have ld : numF (bl (B.extract 1 5)) 0 < 4294967296 := by
    have := Pure.numF_lt (bl (B.extract 1 5))
    rw [bl_len, ByteArray.size_extract, show min 5 B.size - 1 = 4 by omega] at this
    exact this
  have hg := fun W => ref_number (B.extract 5 9) W (by rw [ByteArray.size_extract]; omega)
  have lg : numF (bl (B.extract 5 9)) 0 < 4294967296 := by
    have := Pure.numF_lt (bl (B.extract 5 9))
    rw [bl_len, ByteArray.size_extract, show min 9 B.size - 5 = 4 by omega] at this
    exact this
  have hf := fun W => ref_number (B.extract 9 13) W (by rw [ByteArray.size_extract]; omega)
  have lf : numF (bl (B.extract 9 13)) 0 < 4294967296 := by
    have := Pure.numF_lt (bl (B.extract 9 13))
    rw [bl_len, ByteArray.size_extract, show min 13 B.size - 9 = 4 by omega] at this
    exact this
  have hu := fun W => ref_number (B.extract 13 17) W (by rw [ByteArray.size_extract]; omega)
  have lu : numF (bl (B.extract 13 17)) 0 < 4294967296 := by
    have := Pure.numF_lt (bl (B.extract 13 17))
    rw [bl_len, ByteArray.size_extract, show min 17 B.size - 13 = 4 by omega] at this
    exact this
  generalize ed : numF (bl (B.extract 1 5)) 0 = d at *
  generalize eg : numF (bl (B.extract 5 9)) 0 = g at *
  generalize ef : numF (bl (B.extract 9 13)) 0 = f at *
  generalize eu : numF (bl (B.extract 13 17)) 0 = u at *
  have HEND0 := Aside0.mk (fun (hmi : ¬ 1 < bt B 17) (q1 : rowRef (B.extract 18 B.size) = (P, S1, 0)) (q2 : rowRef S1 = (Q, S2, 0)) (q3 : rowRef S2 = (R, S3, 0)) (hs3 : ¬ 0 < S3.size) => tkB_end HB18.out hmi q1 q2 q3 hs3 ed eg ef eu)
  clear ed eg ef eu
  have wd : IntKind.i64.wrap (d : Int) = (d : Int) := by rw [IntKind.wrap_i64]; omega
  have wg : IntKind.i64.wrap (g : Int) = (g : Int) := by rw [IntKind.wrap_i64]; omega
  have wf : IntKind.i64.wrap (f : Int) = (f : Int) := by rw [IntKind.wrap_i64]; omega
  have wu : IntKind.i64.wrap (u : Int) = (u : Int) := by rw [IntKind.wrap_i64]; omega
  have b0 : ∀ h : 0 < B.size, (((B[0]'h).toNat : Nat) : Int) = bt B 0 := bt_at B 0
  have b17 : ∀ h : 17 < B.size, (((B[17]'h).toNat : Nat) : Int) = bt B 17 := bt_at B 17
  have wb0 : IntKind.i64.wrap (bt B 0) = bt B 0 := by
    have r0 := bt_range B 0
    rw [IntKind.wrap_i64]
    omega
  have q0 : (0 < B.size) = True := eq_true (by omega)
  have q17 : (17 < B.size) = True := eq_true (by omega)
  have qi0 : ((0 : Int) < (B.size : Int)) = True := eq_true (by omega)
  have qi17 : ((17 : Int) < (B.size : Int)) = True := eq_true (by omega)
  have s5 : (5 : Int) ≤ (B.size : Int) := by omega
  have s9 : (9 : Int) ≤ (B.size : Int) := by omega
  have s13 : (13 : Int) ≤ (B.size : Int) := by omega
  have s17 : (17 : Int) ≤ (B.size : Int) := by omega
  have s18 : (18 : Int) ≤ (B.size : Int) := by omega
  have HD := Aside0.mk hd
  have HG := Aside0.mk hg
  have HF := Aside0.mk hf
  have HU := Aside0.mk hu
  clear hn hz1 hz2 h1 h2 hd hg hf hu
  go_enter Tryd.func14, Tryd.ntmps14
  go_upto_region 4 with fail
  go_cut [33] (fun v33 wx => v33 = .bool false ∧ Aside0 (wx.heap[w.heap.size]? = some (.cells #[.int .i64 0, .int .i64 0, .int .i64 0, .int .i64 0, .int .i64 0, .slice none 0 0, .slice none 0 0, .slice none 0 0, .bool false] 34 (0, 0))) ∧ Aside0 (Below w.heap.size w wx))
  case first =>
    go_region_held3 (fun _ => True) (exact trivial)
      (first
        | ((go_at_call 29); (with_reducible refine (H1.out _).mono ?_); (rintro e w1 ⟨rfl, rfl⟩))
        | ((go_at_call 19); (with_reducible refine (H2.out _).mono ?_); (rintro e w1 ⟨rfl, n2, rfl⟩)))
    all_goals
      go_wp2_with fail
      go_meet
      exact ⟨rfl, ⟨blk_new w _⟩, ⟨by repeat (first | exact Below.refl _ _ | apply below_alloc | apply pw_below_drewN | apply below_drew1)⟩⟩
  obtain ⟨rfl, HRES, HBEL⟩ := hcut
  go_upto_region 11 with fail
  go_cut [6] (fun v6 wx => v6 = .pointer (some ⟨wc.heap.size, 0, none⟩) ∧ wx = (wc.alloc (.cells #[.int .i64 (bt B 0), .int .i64 (d : Int), .int .i64 (g : Int), .int .i64 0, .int .i64 0, .slice none 0 0, .slice none 0 0, .slice none 0 0, .bool false] 34)).drew)
  case first =>
    go_region_held3 (fun _ => True) (exact trivial)
      (first
        | ((go_at_call 29); (with_reducible refine (HD.out _).mono ?_); (rintro e w1 ⟨rfl, rfl⟩))
        | ((go_at_call 29); (with_reducible refine (HG.out _).mono ?_); (rintro e w1 ⟨rfl, rfl⟩)))
    all_goals
      go_wp2_with fail
      go_meet
      exact ⟨rfl, rfl⟩
  obtain ⟨rfl, rfl⟩ := hcut
  have hT0 : TS w (wc.alloc (.cells #[.int .i64 (bt B 0), .int .i64 (d : Int), .int .i64 (g : Int), .int .i64 0, .int .i64 0, .slice none 0 0, .slice none 0 0, .slice none 0 0, .bool false] 34)).drew wc.heap.size #[.int .i64 0, .int .i64 0, .int .i64 0, .int .i64 0, .int .i64 0, .slice none 0 0, .slice none 0 0, .slice none 0 0, .bool false] #[.int .i64 (bt B 0), .int .i64 (d : Int), .int .i64 (g : Int), .int .i64 0, .int .i64 0, .slice none 0 0, .slice none 0 0, .slice none 0 0, .bool false] (.slice none 0 0) (.slice none 0 0) (.slice none 0 0) [] [] [] := by
    have hl := blk_lt HRES.out
    exact ⟨Kd.V_nil _ _ _ _ _, Kd.V_nil _ _ _ _ _, Kd.V_nil _ _ _ _ _, by repeat (first | exact HBEL.out | apply below_alloc | apply below_drew1), blk_drew (blk_alloc HRES.out _), blk_drew (blk_new _ _), hl⟩
  obtain ⟨V0, hV0⟩ : ∃ V0, V0 = (wc.alloc (.cells #[.int .i64 (bt B 0), .int .i64 (d : Int), .int .i64 (g : Int), .int .i64 0, .int .i64 0, .slice none 0 0, .slice none 0 0, .slice none 0 0, .bool false] 34)).drew := ⟨_, rfl⟩
  obtain ⟨rb, hrb⟩ : ∃ rb, rb = wc.heap.size := ⟨_, rfl⟩
  rw [← hV0, ← hrb] at hT0
  rw [← hV0, ← hrb]
  clear hV0 hrb HRES HBEL
  have r3 := blk_cell hT0.rcd 3
  have t3 := blk_frozen hT0.rcd 3
  have r4 := blk_cell hT0.rcd 4
  have t4 := blk_frozen hT0.rcd 4
  have HT0 := Aside0.mk hT0
  clear hT0
  go_upto_region 12 with fail
  go_cut [] (fun wx => Aside0 (TS w wx rb #[.int .i64 0, .int .i64 0, .int .i64 0, .int .i64 0, .int .i64 0, .slice none 0 0, .slice none 0 0, .slice none 0 0, .bool false] #[.int .i64 (bt B 0), .int .i64 (d : Int), .int .i64 (g : Int), .int .i64 (f : Int), .int .i64 (u : Int), .slice none 0 0, .slice none 0 0, .slice none 0 0, .bool false] (.slice none 0 0) (.slice none 0 0) (.slice none 0 0) [] [] []))
  case first =>
    go_region_held3 (fun _ => True) (exact trivial)
      (first
        | ((go_at_call 29); (with_reducible refine (HF.out _).mono ?_); (rintro e w1 ⟨rfl, rfl⟩))
        | ((go_at_call 29); (with_reducible refine (HU.out _).mono ?_); (rintro e w1 ⟨rfl, rfl⟩)))
    all_goals
      go_wp2_with fail
      go_meet
      exact ⟨by repeat (first | exact (HT0.out.putR 3 (.int .i64 (f : Int))).putR 4 (.int .i64 (u : Int)) | apply TS.drew)⟩
  have HT1 := hcut
  by_cases hmi : 1 < bt B 17
  · have hmi1 : decide (bt B 17 > 1) = true := decide_eq_true hmi
    go_upto_region 14 with fail
    have hT := HT1.out
    have y0 := blk_cell hT.res 0
    have x0 := blk_frozen hT.res 0
    have y1 := blk_cell hT.res 1
    have x1 := blk_frozen hT.res 1
    have y2 := blk_cell hT.res 2
    have x2 := blk_frozen hT.res 2
    have y3 := blk_cell hT.res 3
    have x3 := blk_frozen hT.res 3
    have y4 := blk_cell hT.res 4
    have x4 := blk_frozen hT.res 4
    have y5 := blk_cell hT.res 5
    have x5 := blk_frozen hT.res 5
    have y6 := blk_cell hT.res 6
    have x6 := blk_frozen hT.res 6
    have y7 := blk_cell hT.res 7
    have x7 := blk_frozen hT.res 7
    have y8 := blk_cell hT.res 8
    have x8 := blk_frozen hT.res 8
    have HTz := Aside0.mk hT
    clear hT
    go_cut [3] (fun v3 wx => v3 = .int .i64 6 ∧ Aside0 (Zr w wx w.heap.size))
    case first =>
      go_wp2_with fail
      go_meet
      have hv0 : Zr w _ w.heap.size := HTz.out.zero
      have hv1 : Zr w _ w.heap.size := hv0.put 0 (.int .i64 0) rfl
      have hv2 : Zr w _ w.heap.size := hv1.put 1 (.int .i64 0) rfl
      have hv3 : Zr w _ w.heap.size := hv2.put 2 (.int .i64 0) rfl
      have hv4 : Zr w _ w.heap.size := hv3.put 3 (.int .i64 0) rfl
      have hv5 : Zr w _ w.heap.size := hv4.put 4 (.int .i64 0) rfl
      have hv6 : Zr w _ w.heap.size := hv5.put 5 (.slice none 0 0) rfl
      have hv7 : Zr w _ w.heap.size := hv6.put 6 (.slice none 0 0) rfl
      have hv8 : Zr w _ w.heap.size := hv7.put 7 (.slice none 0 0) rfl
      have hv9 : Zr w _ w.heap.size := hv8.put 8 (.bool false) rfl
      exact ⟨rfl, ⟨hv9⟩⟩
    obtain ⟨rfl, HZ⟩ := hcut
    clear y0 x0 y1 x1 y2 x2 y3 x3 y4 x4 y5 x5 y6 x6 y7 x7 y8 x8
    refine back_ret (by assumption) ?_
    (try simp only [Exit.inBlock, Exit.then])
    refine bodyPost_ret (results_ct rfl _ _ w.heap.size 34 _ (0, 0) _ rfl HZ.out.res Tryd.underlying34 rfl (by kernel_rfl)) rfl ?_
    rw [tkB_sign HB18.out hmi]
    exact tellsT_none HZ.out.bel
  have hmi1 : decide (bt B 17 > 1) = false := decide_eq_false hmi
  have hT1 := HT1.out
  have r8 := blk_cell hT1.rcd 8
  have t8 := blk_frozen hT1.rcd 8
  clear hT1
  go_upto_region 16 with fail
  have hT2 : TS w (wc.setCell ⟨rb, 8, none⟩ (.bool (bt B 17 == 1))) rb #[.int .i64 0, .int .i64 0, .int .i64 0, .int .i64 0, .int .i64 0, .slice none 0 0, .slice none 0 0, .slice none 0 0, .bool false] #[.int .i64 (bt B 0), .int .i64 (d : Int), .int .i64 (g : Int), .int .i64 (f : Int), .int .i64 (u : Int), .slice none 0 0, .slice none 0 0, .slice none 0 0, .bool (bt B 17 == 1)] (.slice none 0 0) (.slice none 0 0) (.slice none 0 0) [] [] [] := HT1.out.putR 8 (.bool (bt B 17 == 1))
  obtain ⟨V2, hV2⟩ : ∃ V2, V2 = wc.setCell ⟨rb, 8, none⟩ (.bool (bt B 17 == 1)) := ⟨_, rfl⟩
  rw [← hV2] at hT2
  rw [← hV2]
  have HT2 := Aside0.mk hT2
  clear hT2 hV2 HT1 r8 t8
  go_upto_region 16 with fail
  go_cut [7, 8, 9] (fun va vb vc wx => ∃ A c, va = .slice A P.length c ∧ vb = .string S1 ∧ vc = .int .i64 e1 ∧ Aside0 (TS w wx rb #[.int .i64 0, .int .i64 0, .int .i64 0, .int .i64 0, .int .i64 0, .slice none 0 0, .slice none 0 0, .slice none 0 0, .bool false] #[.int .i64 (bt B 0), .int .i64 (d : Int), .int .i64 (g : Int), .int .i64 (f : Int), .int .i64 (u : Int), .slice none 0 0, .slice none 0 0, .slice none 0 0, .bool (bt B 17 == 1)] (.slice A P.length c) (.slice none 0 0) (.slice none 0 0) P [] []))
  case first =>
    go_wp2_with ((go_at_call 30); (with_reducible refine (HR1.out _).mono ?_); (rintro e w1 ⟨A, c, rfl, hrr, hbb⟩); (have HRR := Aside0.mk hrr); (have HBB := Aside0.mk hbb); (clear hrr hbb))
    go_meet
    exact ⟨A, c, rfl, rfl, rfl, ⟨HT2.out.row1 HRR.out HBB.out⟩⟩
  obtain ⟨A1, c1, rfl, rfl, rfl, HT3⟩ := hcut
  by_cases he1 : e1 = 0
  case neg =>
    have hb1 : (e1 != 0) = true := bne_iff_ne.mpr he1
    go_upto_region 18 with fail
    have hT := HT3.out
    have y0 := blk_cell hT.res 0
    have x0 := blk_frozen hT.res 0
    have y1 := blk_cell hT.res 1
    have x1 := blk_frozen hT.res 1
    have y2 := blk_cell hT.res 2
    have x2 := blk_frozen hT.res 2
    have y3 := blk_cell hT.res 3
    have x3 := blk_frozen hT.res 3
    have y4 := blk_cell hT.res 4
    have x4 := blk_frozen hT.res 4
    have y5 := blk_cell hT.res 5
    have x5 := blk_frozen hT.res 5
    have y6 := blk_cell hT.res 6
    have x6 := blk_frozen hT.res 6
    have y7 := blk_cell hT.res 7
    have x7 := blk_frozen hT.res 7
    have y8 := blk_cell hT.res 8
    have x8 := blk_frozen hT.res 8
    have HTz := Aside0.mk hT
    clear hT
    go_cut [3] (fun v3 wx => v3 = .int .i64 e1 ∧ Aside0 (Zr w wx w.heap.size))
    case first =>
      go_wp2_with fail
      go_meet
      have hv0 : Zr w _ w.heap.size := HTz.out.zero
      have hv1 : Zr w _ w.heap.size := hv0.put 0 (.int .i64 0) rfl
      have hv2 : Zr w _ w.heap.size := hv1.put 1 (.int .i64 0) rfl
      have hv3 : Zr w _ w.heap.size := hv2.put 2 (.int .i64 0) rfl
      have hv4 : Zr w _ w.heap.size := hv3.put 3 (.int .i64 0) rfl
      have hv5 : Zr w _ w.heap.size := hv4.put 4 (.int .i64 0) rfl
      have hv6 : Zr w _ w.heap.size := hv5.put 5 (.slice none 0 0) rfl
      have hv7 : Zr w _ w.heap.size := hv6.put 6 (.slice none 0 0) rfl
      have hv8 : Zr w _ w.heap.size := hv7.put 7 (.slice none 0 0) rfl
      have hv9 : Zr w _ w.heap.size := hv8.put 8 (.bool false) rfl
      exact ⟨rfl, ⟨hv9⟩⟩
    obtain ⟨rfl, HZ⟩ := hcut
    clear y0 x0 y1 x1 y2 x2 y3 x3 y4 x4 y5 x5 y6 x6 y7 x7 y8 x8
    refine back_ret (by assumption) ?_
    (try simp only [Exit.inBlock, Exit.then])
    refine bodyPost_ret (results_ct rfl _ _ w.heap.size 34 _ (0, 0) _ rfl HZ.out.res Tryd.underlying34 rfl (by kernel_rfl)) rfl ?_
    rw [tkB_1 HB18.out hmi HQ1.out he1]
    exact tellsT_none HZ.out.bel
  subst he1
  go_upto_region 19 with fail
  go_cut [10, 11, 12] (fun va vb vc wx => ∃ A c, va = .slice A Q.length c ∧ vb = .string S2 ∧ vc = .int .i64 e2 ∧ Aside0 (TS w wx rb #[.int .i64 0, .int .i64 0, .int .i64 0, .int .i64 0, .int .i64 0, .slice none 0 0, .slice none 0 0, .slice none 0 0, .bool false] #[.int .i64 (bt B 0), .int .i64 (d : Int), .int .i64 (g : Int), .int .i64 (f : Int), .int .i64 (u : Int), .slice none 0 0, .slice none 0 0, .slice none 0 0, .bool (bt B 17 == 1)] (.slice A1 P.length c1) (.slice A Q.length c) (.slice none 0 0) P Q []))
  case first =>
    go_wp2_with ((go_at_call 30); (with_reducible refine (HR2.out _).mono ?_); (rintro e w1 ⟨A, c, rfl, hrr, hbb⟩); (have HRR := Aside0.mk hrr); (have HBB := Aside0.mk hbb); (clear hrr hbb))
    go_meet
    exact ⟨A, c, rfl, rfl, rfl, ⟨HT3.out.row2 HRR.out HBB.out⟩⟩
  obtain ⟨A2, c2, rfl, rfl, rfl, HT4⟩ := hcut
  by_cases he2 : e2 = 0
  case neg =>
    have hb2 : (e2 != 0) = true := bne_iff_ne.mpr he2
    go_upto_region 21 with fail
    have hT := HT4.out
    have y0 := blk_cell hT.res 0
    have x0 := blk_frozen hT.res 0
    have y1 := blk_cell hT.res 1
    have x1 := blk_frozen hT.res 1
    have y2 := blk_cell hT.res 2
    have x2 := blk_frozen hT.res 2
    have y3 := blk_cell hT.res 3
    have x3 := blk_frozen hT.res 3
    have y4 := blk_cell hT.res 4
    have x4 := blk_frozen hT.res 4
    have y5 := blk_cell hT.res 5
    have x5 := blk_frozen hT.res 5
    have y6 := blk_cell hT.res 6
    have x6 := blk_frozen hT.res 6
    have y7 := blk_cell hT.res 7
    have x7 := blk_frozen hT.res 7
    have y8 := blk_cell hT.res 8
    have x8 := blk_frozen hT.res 8
    have HTz := Aside0.mk hT
    clear hT
    go_cut [3] (fun v3 wx => v3 = .int .i64 e2 ∧ Aside0 (Zr w wx w.heap.size))
    case first =>
      go_wp2_with fail
      go_meet
      have hv0 : Zr w _ w.heap.size := HTz.out.zero
      have hv1 : Zr w _ w.heap.size := hv0.put 0 (.int .i64 0) rfl
      have hv2 : Zr w _ w.heap.size := hv1.put 1 (.int .i64 0) rfl
      have hv3 : Zr w _ w.heap.size := hv2.put 2 (.int .i64 0) rfl
      have hv4 : Zr w _ w.heap.size := hv3.put 3 (.int .i64 0) rfl
      have hv5 : Zr w _ w.heap.size := hv4.put 4 (.int .i64 0) rfl
      have hv6 : Zr w _ w.heap.size := hv5.put 5 (.slice none 0 0) rfl
      have hv7 : Zr w _ w.heap.size := hv6.put 6 (.slice none 0 0) rfl
      have hv8 : Zr w _ w.heap.size := hv7.put 7 (.slice none 0 0) rfl
      have hv9 : Zr w _ w.heap.size := hv8.put 8 (.bool false) rfl
      exact ⟨rfl, ⟨hv9⟩⟩
    obtain ⟨rfl, HZ⟩ := hcut
    clear y0 x0 y1 x1 y2 x2 y3 x3 y4 x4 y5 x5 y6 x6 y7 x7 y8 x8
    refine back_ret (by assumption) ?_
    (try simp only [Exit.inBlock, Exit.then])
    refine bodyPost_ret (results_ct rfl _ _ w.heap.size 34 _ (0, 0) _ rfl HZ.out.res Tryd.underlying34 rfl (by kernel_rfl)) rfl ?_
    rw [tkB_2 HB18.out hmi HQ1.out HQ2.out he2]
    exact tellsT_none HZ.out.bel
  subst he2
  go_upto_region 22 with fail
  go_cut [13, 14, 15] (fun va vb vc wx => ∃ A c, va = .slice A R.length c ∧ vb = .string S3 ∧ vc = .int .i64 e3 ∧ Aside0 (TS w wx rb #[.int .i64 0, .int .i64 0, .int .i64 0, .int .i64 0, .int .i64 0, .slice none 0 0, .slice none 0 0, .slice none 0 0, .bool false] #[.int .i64 (bt B 0), .int .i64 (d : Int), .int .i64 (g : Int), .int .i64 (f : Int), .int .i64 (u : Int), .slice none 0 0, .slice none 0 0, .slice none 0 0, .bool (bt B 17 == 1)] (.slice A1 P.length c1) (.slice A2 Q.length c2) (.slice A R.length c) P Q R))
  case first =>
    go_wp2_with ((go_at_call 30); (with_reducible refine (HR3.out _).mono ?_); (rintro e w1 ⟨A, c, rfl, hrr, hbb⟩); (have HRR := Aside0.mk hrr); (have HBB := Aside0.mk hbb); (clear hrr hbb))
    go_meet
    exact ⟨A, c, rfl, rfl, rfl, ⟨HT4.out.row3 HRR.out HBB.out⟩⟩
  obtain ⟨A3, c3, rfl, rfl, rfl, HT5⟩ := hcut
  by_cases he3 : e3 = 0
  case neg =>
    have hb3 : (e3 != 0) = true := bne_iff_ne.mpr he3
    go_upto_region 24 with fail
    have hT := HT5.out
    have y0 := blk_cell hT.res 0
    have x0 := blk_frozen hT.res 0
    have y1 := blk_cell hT.res 1
    have x1 := blk_frozen hT.res 1
    have y2 := blk_cell hT.res 2
    have x2 := blk_frozen hT.res 2
    have y3 := blk_cell hT.res 3
    have x3 := blk_frozen hT.res 3
    have y4 := blk_cell hT.res 4
    have x4 := blk_frozen hT.res 4
    have y5 := blk_cell hT.res 5
    have x5 := blk_frozen hT.res 5
    have y6 := blk_cell hT.res 6
    have x6 := blk_frozen hT.res 6
    have y7 := blk_cell hT.res 7
    have x7 := blk_frozen hT.res 7
    have y8 := blk_cell hT.res 8
    have x8 := blk_frozen hT.res 8
    have HTz := Aside0.mk hT
    clear hT
    go_cut [3] (fun v3 wx => v3 = .int .i64 e3 ∧ Aside0 (Zr w wx w.heap.size))
    case first =>
      go_wp2_with fail
      go_meet
      have hv0 : Zr w _ w.heap.size := HTz.out.zero
      have hv1 : Zr w _ w.heap.size := hv0.put 0 (.int .i64 0) rfl
      have hv2 : Zr w _ w.heap.size := hv1.put 1 (.int .i64 0) rfl
      have hv3 : Zr w _ w.heap.size := hv2.put 2 (.int .i64 0) rfl
      have hv4 : Zr w _ w.heap.size := hv3.put 3 (.int .i64 0) rfl
      have hv5 : Zr w _ w.heap.size := hv4.put 4 (.int .i64 0) rfl
      have hv6 : Zr w _ w.heap.size := hv5.put 5 (.slice none 0 0) rfl
      have hv7 : Zr w _ w.heap.size := hv6.put 6 (.slice none 0 0) rfl
      have hv8 : Zr w _ w.heap.size := hv7.put 7 (.slice none 0 0) rfl
      have hv9 : Zr w _ w.heap.size := hv8.put 8 (.bool false) rfl
      exact ⟨rfl, ⟨hv9⟩⟩
    obtain ⟨rfl, HZ⟩ := hcut
    clear y0 x0 y1 x1 y2 x2 y3 x3 y4 x4 y5 x5 y6 x6 y7 x7 y8 x8
    refine back_ret (by assumption) ?_
    (try simp only [Exit.inBlock, Exit.then])
    refine bodyPost_ret (results_ct rfl _ _ w.heap.size 34 _ (0, 0) _ rfl HZ.out.res Tryd.underlying34 rfl (by kernel_rfl)) rfl ?_
    rw [tkB_3 HB18.out hmi HQ1.out HQ2.out HQ3.out he3]
    exact tellsT_none HZ.out.bel
  subst he3
  by_cases hs3 : 0 < S3.size
  case pos =>
    have hs30 : decide ((S3.size : Int) > 0) = true := decide_eq_true (by omega)
    go_upto_region 26 with fail
    have hT := HT5.out
    have y0 := blk_cell hT.res 0
    have x0 := blk_frozen hT.res 0
    have y1 := blk_cell hT.res 1
    have x1 := blk_frozen hT.res 1
    have y2 := blk_cell hT.res 2
    have x2 := blk_frozen hT.res 2
    have y3 := blk_cell hT.res 3
    have x3 := blk_frozen hT.res 3
    have y4 := blk_cell hT.res 4
    have x4 := blk_frozen hT.res 4
    have y5 := blk_cell hT.res 5
    have x5 := blk_frozen hT.res 5
    have y6 := blk_cell hT.res 6
    have x6 := blk_frozen hT.res 6
    have y7 := blk_cell hT.res 7
    have x7 := blk_frozen hT.res 7
    have y8 := blk_cell hT.res 8
    have x8 := blk_frozen hT.res 8
    have HTz := Aside0.mk hT
    clear hT
    go_cut [3] (fun v3 wx => v3 = .int .i64 6 ∧ Aside0 (Zr w wx w.heap.size))
    case first =>
      go_wp2_with fail
      go_meet
      have hv0 : Zr w _ w.heap.size := HTz.out.zero
      have hv1 : Zr w _ w.heap.size := hv0.put 0 (.int .i64 0) rfl
      have hv2 : Zr w _ w.heap.size := hv1.put 1 (.int .i64 0) rfl
      have hv3 : Zr w _ w.heap.size := hv2.put 2 (.int .i64 0) rfl
      have hv4 : Zr w _ w.heap.size := hv3.put 3 (.int .i64 0) rfl
      have hv5 : Zr w _ w.heap.size := hv4.put 4 (.int .i64 0) rfl
      have hv6 : Zr w _ w.heap.size := hv5.put 5 (.slice none 0 0) rfl
      have hv7 : Zr w _ w.heap.size := hv6.put 6 (.slice none 0 0) rfl
      have hv8 : Zr w _ w.heap.size := hv7.put 7 (.slice none 0 0) rfl
      have hv9 : Zr w _ w.heap.size := hv8.put 8 (.bool false) rfl
      exact ⟨rfl, ⟨hv9⟩⟩
    obtain ⟨rfl, HZ⟩ := hcut
    clear y0 x0 y1 x1 y2 x2 y3 x3 y4 x4 y5 x5 y6 x6 y7 x7 y8 x8
    refine back_ret (by assumption) ?_
    (try simp only [Exit.inBlock, Exit.then])
    refine bodyPost_ret (results_ct rfl _ _ w.heap.size 34 _ (0, 0) _ rfl HZ.out.res Tryd.underlying34 rfl (by kernel_rfl)) rfl ?_
    rw [tkB_more HB18.out hmi HQ1.out HQ2.out HQ3.out hs3]
    exact tellsT_none HZ.out.bel
  have hs30 : decide ((S3.size : Int) > 0) = false := decide_eq_false (by omega)
  have hT5 := HT5.out
  have r5 := blk_cell hT5.rcd 5
  have t5 := blk_frozen hT5.rcd 5
  have r6 := blk_cell hT5.rcd 6
  have t6 := blk_frozen hT5.rcd 6
  have r7 := blk_cell hT5.rcd 7
  have t7 := blk_frozen hT5.rcd 7
  clear hT5
  go_upto_region 30 with fail
  have hT6 : TS w (((wc.setCell ⟨rb, 5, none⟩ (.slice A1 P.length c1)).setCell ⟨rb, 6, none⟩ (.slice A2 Q.length c2)).setCell ⟨rb, 7, none⟩ (.slice A3 R.length c3)) rb #[.int .i64 0, .int .i64 0, .int .i64 0, .int .i64 0, .int .i64 0, .slice none 0 0, .slice none 0 0, .slice none 0 0, .bool false] #[.int .i64 (bt B 0), .int .i64 (d : Int), .int .i64 (g : Int), .int .i64 (f : Int), .int .i64 (u : Int), .slice A1 P.length c1, .slice A2 Q.length c2, .slice A3 R.length c3, .bool (bt B 17 == 1)] (.slice A1 P.length c1) (.slice A2 Q.length c2) (.slice A3 R.length c3) P Q R := ((HT5.out.putR 5 (.slice A1 P.length c1)).putR 6 (.slice A2 Q.length c2)).putR 7 (.slice A3 R.length c3)
  obtain ⟨V6, hV6⟩ : ∃ V6, V6 = (((wc.setCell ⟨rb, 5, none⟩ (.slice A1 P.length c1)).setCell ⟨rb, 6, none⟩ (.slice A2 Q.length c2)).setCell ⟨rb, 7, none⟩ (.slice A3 R.length c3)) := ⟨_, rfl⟩
  rw [← hV6] at hT6
  rw [← hV6]
  have HT6 := Aside0.mk hT6
  clear hV6 HT5 r5 t5 r6 t6 r7 t7
  have r0 := blk_cell hT6.rcd 0
  have t0 := blk_frozen hT6.rcd 0
  have r1 := blk_cell hT6.rcd 1
  have t1 := blk_frozen hT6.rcd 1
  have r2 := blk_cell hT6.rcd 2
  have t2 := blk_frozen hT6.rcd 2
  have r3 := blk_cell hT6.rcd 3
  have t3 := blk_frozen hT6.rcd 3
  have r4 := blk_cell hT6.rcd 4
  have t4 := blk_frozen hT6.rcd 4
  have r5 := blk_cell hT6.rcd 5
  have t5 := blk_frozen hT6.rcd 5
  have r6 := blk_cell hT6.rcd 6
  have t6 := blk_frozen hT6.rcd 6
  have r7 := blk_cell hT6.rcd 7
  have t7 := blk_frozen hT6.rcd 7
  have r8 := blk_cell hT6.rcd 8
  have t8 := blk_frozen hT6.rcd 8
  clear hT6
  obtain ⟨ip, lp, _⟩ := rowRef_ok HQ1.out
  obtain ⟨iq, lq, _⟩ := rowRef_ok HQ2.out
  obtain ⟨ir, lr, _⟩ := rowRef_ok HQ3.out
  have hmay := ref_may (bt B 0) (d : Int) (g : Int) (f : Int) (u : Int) A1 c1 P A2 c2 Q A3 c3 R (bt B 17 == 1) V6 (Kd.V_reads' HT6.out.p).2.2 (Kd.V_reads' HT6.out.p).2.1 (Kd.V_reads' HT6.out.q).2.2 (Kd.V_reads' HT6.out.q).2.1 (Kd.V_reads' HT6.out.r).2.2 (Kd.V_reads' HT6.out.r).2.1 ip iq ir lp lq lr
  have hend := HEND0.out hmi HQ1.out HQ2.out HQ3.out hs3
  obtain ⟨mb, hmb⟩ : ∃ mb, mb = mayV (bt B 0) (d : Int) (g : Int) (f : Int) (u : Int) P Q R := ⟨_, rfl⟩
  rw [← hmb] at hmay hend
  have HEND := Aside0.mk hend
  clear hend hmb
  have HMAY := Aside0.mk hmay
  clear hmay ip iq ir lp lq lr
  go_cut [16] (fun v16 wx => v16 = .bool mb ∧ Aside0 (TS w wx rb #[.int .i64 0, .int .i64 0, .int .i64 0, .int .i64 0, .int .i64 0, .slice none 0 0, .slice none 0 0, .slice none 0 0, .bool false] #[.int .i64 (bt B 0), .int .i64 (d : Int), .int .i64 (g : Int), .int .i64 (f : Int), .int .i64 (u : Int), .slice A1 P.length c1, .slice A2 Q.length c2, .slice A3 R.length c3, .bool (bt B 17 == 1)] (.slice A1 P.length c1) (.slice A2 Q.length c2) (.slice A3 R.length c3) P Q R))
  case first =>
    go_wp2_with ((go_at_call 26); (with_reducible refine HMAY.out.mono ?_); (rintro e w1 ⟨rfl, hbb⟩); (have HBB := Aside0.mk hbb); (clear hbb))
    go_meet
    exact ⟨rfl, ⟨HT6.out.later HBB.out⟩⟩
  obtain ⟨rfl, HT7⟩ := hcut
  clear r0 r1 r2 r3 r4 r5 r6 r7 r8 t0 t1 t2 t3 t4 t5 t6 t7 t8
  cases mb with
  | false =>
    go_upto_region 32 with fail
    have hT := HT7.out
    have y0 := blk_cell hT.res 0
    have x0 := blk_frozen hT.res 0
    have y1 := blk_cell hT.res 1
    have x1 := blk_frozen hT.res 1
    have y2 := blk_cell hT.res 2
    have x2 := blk_frozen hT.res 2
    have y3 := blk_cell hT.res 3
    have x3 := blk_frozen hT.res 3
    have y4 := blk_cell hT.res 4
    have x4 := blk_frozen hT.res 4
    have y5 := blk_cell hT.res 5
    have x5 := blk_frozen hT.res 5
    have y6 := blk_cell hT.res 6
    have x6 := blk_frozen hT.res 6
    have y7 := blk_cell hT.res 7
    have x7 := blk_frozen hT.res 7
    have y8 := blk_cell hT.res 8
    have x8 := blk_frozen hT.res 8
    have HTz := Aside0.mk hT
    clear hT
    go_cut [3] (fun v3 wx => v3 = .int .i64 1 ∧ Aside0 (Zr w wx w.heap.size))
    case first =>
      go_wp2_with fail
      go_meet
      have hv0 : Zr w _ w.heap.size := HTz.out.zero
      have hv1 : Zr w _ w.heap.size := hv0.put 0 (.int .i64 0) rfl
      have hv2 : Zr w _ w.heap.size := hv1.put 1 (.int .i64 0) rfl
      have hv3 : Zr w _ w.heap.size := hv2.put 2 (.int .i64 0) rfl
      have hv4 : Zr w _ w.heap.size := hv3.put 3 (.int .i64 0) rfl
      have hv5 : Zr w _ w.heap.size := hv4.put 4 (.int .i64 0) rfl
      have hv6 : Zr w _ w.heap.size := hv5.put 5 (.slice none 0 0) rfl
      have hv7 : Zr w _ w.heap.size := hv6.put 6 (.slice none 0 0) rfl
      have hv8 : Zr w _ w.heap.size := hv7.put 7 (.slice none 0 0) rfl
      have hv9 : Zr w _ w.heap.size := hv8.put 8 (.bool false) rfl
      exact ⟨rfl, ⟨hv9⟩⟩
    obtain ⟨rfl, HZ⟩ := hcut
    clear y0 x0 y1 x1 y2 x2 y3 x3 y4 x4 y5 x5 y6 x6 y7 x7 y8 x8
    refine back_ret (by assumption) ?_
    (try simp only [Exit.inBlock, Exit.then])
    refine bodyPost_ret (results_ct rfl _ _ w.heap.size 34 _ (0, 0) _ rfl HZ.out.res Tryd.underlying34 rfl (by kernel_rfl)) rfl ?_
    rw [HEND.out, if_neg (by simp)]
    exact tellsT_none HZ.out.bel
  | true =>
    have hT := HT7.out
    have y0 : wc.cell? ⟨w.heap.size, 0, none⟩ = some (.int .i64 0) := (blk_cell hT.res 0).trans rfl
    have x0 := blk_frozen hT.res 0
    have r0 : wc.cell? ⟨rb, 0, none⟩ = some (.int .i64 (bt B 0)) := (blk_cell hT.rcd 0).trans rfl
    have t0 := blk_frozen hT.rcd 0
    have y1 : wc.cell? ⟨w.heap.size, 1, none⟩ = some (.int .i64 0) := (blk_cell hT.res 1).trans rfl
    have x1 := blk_frozen hT.res 1
    have r1 : wc.cell? ⟨rb, 1, none⟩ = some (.int .i64 (d : Int)) := (blk_cell hT.rcd 1).trans rfl
    have t1 := blk_frozen hT.rcd 1
    have y2 : wc.cell? ⟨w.heap.size, 2, none⟩ = some (.int .i64 0) := (blk_cell hT.res 2).trans rfl
    have x2 := blk_frozen hT.res 2
    have r2 : wc.cell? ⟨rb, 2, none⟩ = some (.int .i64 (g : Int)) := (blk_cell hT.rcd 2).trans rfl
    have t2 := blk_frozen hT.rcd 2
    have y3 : wc.cell? ⟨w.heap.size, 3, none⟩ = some (.int .i64 0) := (blk_cell hT.res 3).trans rfl
    have x3 := blk_frozen hT.res 3
    have r3 : wc.cell? ⟨rb, 3, none⟩ = some (.int .i64 (f : Int)) := (blk_cell hT.rcd 3).trans rfl
    have t3 := blk_frozen hT.rcd 3
    have y4 : wc.cell? ⟨w.heap.size, 4, none⟩ = some (.int .i64 0) := (blk_cell hT.res 4).trans rfl
    have x4 := blk_frozen hT.res 4
    have r4 : wc.cell? ⟨rb, 4, none⟩ = some (.int .i64 (u : Int)) := (blk_cell hT.rcd 4).trans rfl
    have t4 := blk_frozen hT.rcd 4
    have y5 : wc.cell? ⟨w.heap.size, 5, none⟩ = some (.slice none 0 0) := (blk_cell hT.res 5).trans rfl
    have x5 := blk_frozen hT.res 5
    have r5 : wc.cell? ⟨rb, 5, none⟩ = some (.slice A1 P.length c1) := (blk_cell hT.rcd 5).trans rfl
    have t5 := blk_frozen hT.rcd 5
    have y6 : wc.cell? ⟨w.heap.size, 6, none⟩ = some (.slice none 0 0) := (blk_cell hT.res 6).trans rfl
    have x6 := blk_frozen hT.res 6
    have r6 : wc.cell? ⟨rb, 6, none⟩ = some (.slice A2 Q.length c2) := (blk_cell hT.rcd 6).trans rfl
    have t6 := blk_frozen hT.rcd 6
    have y7 : wc.cell? ⟨w.heap.size, 7, none⟩ = some (.slice none 0 0) := (blk_cell hT.res 7).trans rfl
    have x7 := blk_frozen hT.res 7
    have r7 : wc.cell? ⟨rb, 7, none⟩ = some (.slice A3 R.length c3) := (blk_cell hT.rcd 7).trans rfl
    have t7 := blk_frozen hT.rcd 7
    have y8 : wc.cell? ⟨w.heap.size, 8, none⟩ = some (.bool false) := (blk_cell hT.res 8).trans rfl
    have x8 := blk_frozen hT.res 8
    have r8 : wc.cell? ⟨rb, 8, none⟩ = some (.bool (bt B 17 == 1)) := (blk_cell hT.rcd 8).trans rfl
    have t8 := blk_frozen hT.rcd 8
    clear hT
    go_upto_region 33 with fail
    go_cut [3] (fun v3 wx => v3 = .int .i64 0 ∧ Aside0 (TS w wx rb #[.int .i64 (bt B 0), .int .i64 (d : Int), .int .i64 (g : Int), .int .i64 (f : Int), .int .i64 (u : Int), .slice A1 P.length c1, .slice A2 Q.length c2, .slice A3 R.length c3, .bool (bt B 17 == 1)] #[.int .i64 (bt B 0), .int .i64 (d : Int), .int .i64 (g : Int), .int .i64 (f : Int), .int .i64 (u : Int), .slice A1 P.length c1, .slice A2 Q.length c2, .slice A3 R.length c3, .bool (bt B 17 == 1)] (.slice A1 P.length c1) (.slice A2 Q.length c2) (.slice A3 R.length c3) P Q R))
    case first =>
      go_wp2_with fail
      go_meet
      have h0 := HT7.out
      have h1 : TS w _ rb #[.int .i64 (bt B 0), .int .i64 0, .int .i64 0, .int .i64 0, .int .i64 0, .slice none 0 0, .slice none 0 0, .slice none 0 0, .bool false] #[.int .i64 (bt B 0), .int .i64 (d : Int), .int .i64 (g : Int), .int .i64 (f : Int), .int .i64 (u : Int), .slice A1 P.length c1, .slice A2 Q.length c2, .slice A3 R.length c3, .bool (bt B 17 == 1)] (.slice A1 P.length c1) (.slice A2 Q.length c2) (.slice A3 R.length c3) P Q R := h0.putS 0 (.int .i64 (bt B 0))
      clear h0
      have h2 : TS w _ rb #[.int .i64 (bt B 0), .int .i64 (d : Int), .int .i64 0, .int .i64 0, .int .i64 0, .slice none 0 0, .slice none 0 0, .slice none 0 0, .bool false] #[.int .i64 (bt B 0), .int .i64 (d : Int), .int .i64 (g : Int), .int .i64 (f : Int), .int .i64 (u : Int), .slice A1 P.length c1, .slice A2 Q.length c2, .slice A3 R.length c3, .bool (bt B 17 == 1)] (.slice A1 P.length c1) (.slice A2 Q.length c2) (.slice A3 R.length c3) P Q R := h1.putS 1 (.int .i64 (d : Int))
      clear h1
      have h3 : TS w _ rb #[.int .i64 (bt B 0), .int .i64 (d : Int), .int .i64 (g : Int), .int .i64 0, .int .i64 0, .slice none 0 0, .slice none 0 0, .slice none 0 0, .bool false] #[.int .i64 (bt B 0), .int .i64 (d : Int), .int .i64 (g : Int), .int .i64 (f : Int), .int .i64 (u : Int), .slice A1 P.length c1, .slice A2 Q.length c2, .slice A3 R.length c3, .bool (bt B 17 == 1)] (.slice A1 P.length c1) (.slice A2 Q.length c2) (.slice A3 R.length c3) P Q R := h2.putS 2 (.int .i64 (g : Int))
      clear h2
      have h4 : TS w _ rb #[.int .i64 (bt B 0), .int .i64 (d : Int), .int .i64 (g : Int), .int .i64 (f : Int), .int .i64 0, .slice none 0 0, .slice none 0 0, .slice none 0 0, .bool false] #[.int .i64 (bt B 0), .int .i64 (d : Int), .int .i64 (g : Int), .int .i64 (f : Int), .int .i64 (u : Int), .slice A1 P.length c1, .slice A2 Q.length c2, .slice A3 R.length c3, .bool (bt B 17 == 1)] (.slice A1 P.length c1) (.slice A2 Q.length c2) (.slice A3 R.length c3) P Q R := h3.putS 3 (.int .i64 (f : Int))
      clear h3
      have h5 : TS w _ rb #[.int .i64 (bt B 0), .int .i64 (d : Int), .int .i64 (g : Int), .int .i64 (f : Int), .int .i64 (u : Int), .slice none 0 0, .slice none 0 0, .slice none 0 0, .bool false] #[.int .i64 (bt B 0), .int .i64 (d : Int), .int .i64 (g : Int), .int .i64 (f : Int), .int .i64 (u : Int), .slice A1 P.length c1, .slice A2 Q.length c2, .slice A3 R.length c3, .bool (bt B 17 == 1)] (.slice A1 P.length c1) (.slice A2 Q.length c2) (.slice A3 R.length c3) P Q R := h4.putS 4 (.int .i64 (u : Int))
      clear h4
      have h6 : TS w _ rb #[.int .i64 (bt B 0), .int .i64 (d : Int), .int .i64 (g : Int), .int .i64 (f : Int), .int .i64 (u : Int), .slice A1 P.length c1, .slice none 0 0, .slice none 0 0, .bool false] #[.int .i64 (bt B 0), .int .i64 (d : Int), .int .i64 (g : Int), .int .i64 (f : Int), .int .i64 (u : Int), .slice A1 P.length c1, .slice A2 Q.length c2, .slice A3 R.length c3, .bool (bt B 17 == 1)] (.slice A1 P.length c1) (.slice A2 Q.length c2) (.slice A3 R.length c3) P Q R := h5.putS 5 (.slice A1 P.length c1)
      clear h5
      have h7 : TS w _ rb #[.int .i64 (bt B 0), .int .i64 (d : Int), .int .i64 (g : Int), .int .i64 (f : Int), .int .i64 (u : Int), .slice A1 P.length c1, .slice A2 Q.length c2, .slice none 0 0, .bool false] #[.int .i64 (bt B 0), .int .i64 (d : Int), .int .i64 (g : Int), .int .i64 (f : Int), .int .i64 (u : Int), .slice A1 P.length c1, .slice A2 Q.length c2, .slice A3 R.length c3, .bool (bt B 17 == 1)] (.slice A1 P.length c1) (.slice A2 Q.length c2) (.slice A3 R.length c3) P Q R := h6.putS 6 (.slice A2 Q.length c2)
      clear h6
      have h8 : TS w _ rb #[.int .i64 (bt B 0), .int .i64 (d : Int), .int .i64 (g : Int), .int .i64 (f : Int), .int .i64 (u : Int), .slice A1 P.length c1, .slice A2 Q.length c2, .slice A3 R.length c3, .bool false] #[.int .i64 (bt B 0), .int .i64 (d : Int), .int .i64 (g : Int), .int .i64 (f : Int), .int .i64 (u : Int), .slice A1 P.length c1, .slice A2 Q.length c2, .slice A3 R.length c3, .bool (bt B 17 == 1)] (.slice A1 P.length c1) (.slice A2 Q.length c2) (.slice A3 R.length c3) P Q R := h7.putS 7 (.slice A3 R.length c3)
      clear h7
      have h9 : TS w _ rb #[.int .i64 (bt B 0), .int .i64 (d : Int), .int .i64 (g : Int), .int .i64 (f : Int), .int .i64 (u : Int), .slice A1 P.length c1, .slice A2 Q.length c2, .slice A3 R.length c3, .bool (bt B 17 == 1)] #[.int .i64 (bt B 0), .int .i64 (d : Int), .int .i64 (g : Int), .int .i64 (f : Int), .int .i64 (u : Int), .slice A1 P.length c1, .slice A2 Q.length c2, .slice A3 R.length c3, .bool (bt B 17 == 1)] (.slice A1 P.length c1) (.slice A2 Q.length c2) (.slice A3 R.length c3) P Q R := h8.putS 8 (.bool (bt B 17 == 1))
      clear h8
      exact ⟨rfl, ⟨h9⟩⟩
    obtain ⟨rfl, HT8⟩ := hcut
    clear y0 y1 y2 y3 y4 y5 y6 y7 y8 x0 x1 x2 x3 x4 x5 x6 x7 x8 r0 r1 r2 r3 r4 r5 r6 r7 r8 t0 t1 t2 t3 t4 t5 t6 t7 t8
    refine back_ret (by assumption) ?_
    (try simp only [Exit.inBlock, Exit.then])
    refine bodyPost_ret (results_ct rfl _ _ w.heap.size 34 _ (0, 0) _ rfl HT8.out.res Tryd.underlying34 rfl (by kernel_rfl)) rfl ?_
    rw [HEND.out, if_pos rfl]
    have hbt : (((bt B 0).toNat : Nat) : Int) = bt B 0 := by
      have := bt_range B 0
      omega
    refine ⟨_, _, _, ?_, Kd.V_mono HT8.out.p (fun _ hk => hk.1), Kd.V_mono HT8.out.q (fun _ hk => hk.1), Kd.V_mono HT8.out.r (fun _ hk => hk.1), HT8.out.bel⟩
    show _ = Ending.returned (.tuple #[.agg #[.int .i64 (((bt B 0).toNat : Nat) : Int), _, _, _, _, _, _, _, _], _])
    rw [hbt]
    rfl

end Go.Proofs.YtanjahakoadecaaDoor.Hand
