/- math/bits.Len64, LeadingZeros64 (by the shelf's templates) and Div64 by hand: Go's own texts: how many bits; a quotient of two words by one, and what is left. Conditions: words; the upper one below the divisor. -/
import Derived.Test.YtaakniobgljniaaDoorHLen
import Derived.Test.YtaakniobgljniaaDoorPDiv
import Derived.Test.YtaakniobgljniaaDoorHBitsLen
namespace Go.Proofs.YtaakniobgljniaaDoor.Hand
open Go.RowKit Go.Proofs.YtaakniobgljniaaDoorW.PrintWords Go.Proofs.YtaakniobgljniaaDoorW.PrintMore Go.Proofs.YtaakniobgljniaaDoor.Num Go.Proofs.YtaakniobgljniaaDoor.Pure
set_option linter.unusedVariables false
set_option linter.unusedSimpArgs false
attribute [local go_sem] Oper.semAt_some max2_int min2_int max_two min_two

theorem lt_bitLen (x : Nat) : x < 2 ^ 64 → x < 2 ^ Lib.bitLen x := by
  induction x using Nat.strongRecOn with
  | _ x ih =>
    intro h
    rcases Nat.eq_zero_or_pos x with h0 | h0
    · subst h0; exact Nat.two_pow_pos _
    · have e := Lib.bitLen_half x (by omega) h
      have := ih (x / 2) (by omega) (by omega)
      rw [e, Nat.add_comm, Nat.pow_succ]
      omega
/-- How far a number is moved up till its highest bit is set. -/
theorem lz_move {x : Nat} (h0 : 0 < x) (h : x < 18446744073709551616) : ∃ s : Nat, (64 - (Lib.bitLen x : Int)) = (s : Int) ∧ s < 64 ∧ 9223372036854775808 ≤ x * 2 ^ s ∧ x * 2 ^ s < 18446744073709551616 := by
  have h1 := lt_bitLen x (by omega)
  have h2 : Lib.bitLen x ≤ 64 := Lib.bitLen_le x 64 (by omega) (by omega)
  have h3 := Lib.bitLen_half x (by omega) (by omega)
  obtain ⟨k, hk⟩ : ∃ k, Lib.bitLen x = k + 1 := ⟨Lib.bitLen x - 1, by omega⟩
  have h4 : 2 ^ k ≤ x := by
    rcases Nat.lt_or_ge x (2 ^ k) with h | h
    · have := Lib.bitLen_le x k (by omega) h; omega
    · exact h
  rw [hk] at h1 h2 ⊢
  refine ⟨63 - k, by omega, by omega, ?_, ?_⟩
  · have := Nat.mul_le_mul_right (2 ^ (63 - k)) h4
    rw [← Nat.pow_add, show k + (63 - k) = 63 by omega] at this
    exact this
  · have := Nat.mul_lt_mul_of_pos_right h1 (Nat.two_pow_pos (63 - k))
    rw [← Nat.pow_add, show k + 1 + (63 - k) = 64 by omega] at this
    exact this
theorem wrap_nat (a : Nat) (h : a < 18446744073709551616) : IntKind.u64.wrap (a : Int) = (a : Int) := by rw [IntKind.wrap_u64]; omega
/-- The words of two, moved up by s bits. -/
theorem div_pieces (hi lo y s N : Nat) (hNd : N = hi * 18446744073709551616 + lo) (hh : hi < y) (hl : lo < 18446744073709551616) (hs : s < 64) (hv : y * 2 ^ s < 18446744073709551616) :
    IntKind.u64.wrap ((y : Int) * 2 ^ s) = ((y * 2 ^ s : Nat) : Int) ∧
    bits BinOp.or IntKind.u64 (IntKind.u64.wrap ((hi : Int) * 2 ^ s)) ((lo : Int) / 2 ^ (64 - s)) = ((hi * 2 ^ s + lo / 2 ^ (64 - s) : Nat) : Int) ∧
    IntKind.u64.wrap ((lo : Int) * 2 ^ s) = ((lo * 2 ^ s % 18446744073709551616 : Nat) : Int) ∧
    hi * 2 ^ s + lo / 2 ^ (64 - s) < y * 2 ^ s ∧
    (hi * 2 ^ s + lo / 2 ^ (64 - s)) * 18446744073709551616 + lo * 2 ^ s % 18446744073709551616 = N * 2 ^ s := by
  have ep : ((2 : Int) ^ s) = ((2 ^ s : Nat) : Int) := by simp
  have ep2 : ((2 : Int) ^ (64 - s)) = ((2 ^ (64 - s) : Nat) : Int) := by simp
  have hW : (18446744073709551616 : Nat) = 2 ^ (64 - s) * 2 ^ s := by rw [← Nat.pow_add, show 64 - s + s = 64 by omega]
  have hd : lo / 2 ^ (64 - s) < 2 ^ s := Nat.div_lt_of_lt_mul (by rw [← hW]; exact hl)
  have h1 : (hi + 1) * 2 ^ s ≤ y * 2 ^ s := Nat.mul_le_mul_right _ hh
  rw [Nat.add_mul, Nat.one_mul] at h1
  have h2 : lo * 2 ^ s / 18446744073709551616 = lo / 2 ^ (64 - s) := by rw [hW, Nat.mul_div_mul_right _ _ (Nat.two_pow_pos s)]
  have h3 := Nat.div_add_mod (lo * 2 ^ s) 18446744073709551616
  rw [h2] at h3
  have b1 : hi * 2 ^ s < 18446744073709551616 := Nat.lt_of_le_of_lt (Nat.le_trans (Nat.le_add_right _ _) h1) hv
  have b2 : lo / 2 ^ (64 - s) < 18446744073709551616 := Nat.lt_of_le_of_lt (Nat.div_le_self _ _) hl
  have b3 : hi * 2 ^ s + lo / 2 ^ (64 - s) < y * 2 ^ s := Nat.lt_of_lt_of_le (Nat.add_lt_add_left hd _) h1
  have w1 : IntKind.u64.wrap ((hi : Int) * 2 ^ s) = ((hi * 2 ^ s : Nat) : Int) := by
    rw [ep, ← Int.natCast_mul]
    exact wrap_nat _ b1
  refine ⟨?_, ?_, ?_, b3, ?_⟩
  · rw [ep, ← Int.natCast_mul]
    exact wrap_nat _ hv
  · rw [w1, ep2, ← Int.natCast_ediv, bits_or_u64_nat _ _ b1 b2, Nat.mul_comm hi, ← Nat.two_pow_add_eq_or_of_lt hd]
  · rw [IntKind.wrap_u64, ep, ← Int.natCast_mul]; rfl
  · rw [hNd, Nat.add_mul, Nat.add_mul, Nat.mul_right_comm hi]
    rw [Nat.add_assoc, Nat.mul_comm (lo / 2 ^ (64 - s)), h3]
theorem mask32 (x : Nat) (h : x < 18446744073709551616) : bits BinOp.and IntKind.u64 (x : Int) 4294967295 = ((x % 4294967296 : Nat) : Int) := by
  have := bits_and_u64_nat x 4294967295 h (by decide)
  rw [show (4294967295 : Nat) = 2 ^ 32 - 1 from rfl, Nat.and_two_pow_sub_one_eq_mod] at this
  exact this
theorem wrap_mul_nat (a b : Nat) (h : a * b < 18446744073709551616) : IntKind.u64.wrap ((a : Int) * (b : Int)) = ((a * b : Nat) : Int) := by
  rw [IntKind.wrap_u64, ← Int.natCast_mul]; omega
theorem wrap_first (u y : Nat) (hu : u < 18446744073709551616) : IntKind.u64.wrap ((u : Int) / (y : Int)) = ((u / y : Nat) : Int) ∧ IntKind.u64.wrap ((u : Int) - IntKind.u64.wrap (((u / y : Nat) : Int) * (y : Int))) = ((u % y : Nat) : Int) := by
  have h1 := Nat.div_add_mod u y
  have h2 : u / y ≤ u := Nat.div_le_self _ _
  have h3 : u / y * y = y * (u / y) := Nat.mul_comm _ _
  constructor
  · rw [← Int.natCast_ediv]; exact wrap_nat _ (Nat.lt_of_le_of_lt h2 hu)
  · rw [wrap_mul_nat _ _ (by rw [h3]; omega), h3, IntKind.wrap_u64]
    generalize y * (u / y) = a at *
    generalize u % y = b at *
    omega
theorem wrap_rest (u d q v r : Nat) (hv : 0 < v) (hb : v ≤ 18446744073709551616) (hd : d < 4294967296) (hq : q = (u * 4294967296 + d) / v) (hr : r = (u * 4294967296 + d) % v) :
    IntKind.u64.wrap (IntKind.u64.wrap (IntKind.u64.wrap ((u : Int) * 4294967296) + (d : Int)) - IntKind.u64.wrap ((q : Int) * (v : Int))) = (r : Int) := by
  have h := kn_rest (N := u * 4294967296 + d) hv hq hb
  rw [← hr] at h
  rw [IntKind.wrap_u64, IntKind.wrap_u64, IntKind.wrap_u64, IntKind.wrap_u64, ← Int.natCast_mul]
  generalize q * v = p at *
  omega
set_option maxHeartbeats 4000000 in
set_option maxRecDepth 100000 in
theorem bits_div64 (hi lo y : Nat) (hh : hi < y) (hl : lo < 18446744073709551616) (hy : y < 18446744073709551616) (w : World) :
    Calls Tryd.prog 55 #[.int .u64 hi, .int .u64 lo, .int .u64 y] w fun e w' => e = .returned (.tuple #[.int .u64 (((hi * 18446744073709551616 + lo) / y : Nat) : Int), .int .u64 (((hi * 18446744073709551616 + lo) % y : Nat) : Int)]) ∧ Below w.heap.size w w' := by
  have hy0 : 0 < y := by omega
  obtain ⟨N, hNd⟩ : ∃ N, N = hi * 18446744073709551616 + lo := ⟨_, rfl⟩
  rw [← hNd]
  have e1 : ((y : Int) == 0) = false := by rw [beq_eq_false_iff_ne]; omega
  have e2 : ¬ ((y : Int) ≤ (hi : Int)) := by omega
  rcases Nat.eq_zero_or_pos hi with h0 | h0
  · subst h0
    rw [Nat.zero_mul, Nat.zero_add] at hNd
    rw [hNd]
    clear hNd
    have e3 : ((lo : Int) / (y : Int)) = ((lo / y : Nat) : Int) := rfl
    have e4 : ((lo : Int) % (y : Int)) = ((lo % y : Nat) : Int) := rfl
    have e5 : Int.tdiv (lo : Int) (y : Int) = ((lo / y : Nat) : Int) := rfl
    have e6 : Int.tmod (lo : Int) (y : Int) = ((lo % y : Nat) : Int) := rfl
    have hq : lo / y < 18446744073709551616 := Nat.lt_of_le_of_lt (Nat.div_le_self _ _) hl
    have hr : lo % y < 18446744073709551616 := Nat.lt_of_le_of_lt (Nat.mod_le _ _) hl
    generalize lo / y = Q at *
    generalize lo % y = R at *
    go_enter Tryd.func55, Tryd.ntmps55
    go_wp2
    go_region
    all_goals
      go_wp2
      refine bodyPost_ret (results_tmp2 rfl _ _ _) rfl ?_
      exact ⟨rfl, (Below.refl w.heap.size w).drew⟩
  · obtain ⟨s, hs, hs64, hv1, hv2⟩ := lz_move hy0 hy
    have hlz := bits_lz64 (y : Int)
    rw [Int.toNat_natCast, hs] at hlz
    have HLZ := Aside0.mk hlz
    obtain ⟨P1, P2, P3, hu, hN⟩ := div_pieces hi lo y s N hNd hh hl hs64 hv2
    have hmv := kn_moved (n := N) (y := y) (Nat.two_pow_pos s)
    rw [← hN] at hmv
    have hll : lo * 2 ^ s % 18446744073709551616 < 18446744073709551616 := Nat.mod_lt _ (by decide)
    have e0 : ((hi : Int) == 0) = false := by rw [beq_eq_false_iff_ne]; omega
    generalize y * 2 ^ s = v at *
    generalize hi * 2 ^ s + lo / 2 ^ (64 - s) = u at *
    generalize lo * 2 ^ s % 18446744073709551616 = l at *
    generalize N / y = NQ at *
    generalize N % y = NR at *
    clear hNd
    obtain ⟨y1, hy1⟩ : ∃ y1, y1 = v / 4294967296 := ⟨_, rfl⟩
    obtain ⟨y0', hy0'⟩ : ∃ y0, y0 = v % 4294967296 := ⟨_, rfl⟩
    obtain ⟨d1, hd1⟩ : ∃ d1, d1 = l / 4294967296 := ⟨_, rfl⟩
    obtain ⟨d0, hd0⟩ : ∃ d0, d0 = l % 4294967296 := ⟨_, rfl⟩
    have D1 : ((v : Int) / 4294967296) = (y1 : Int) := by omega
    have D2 : ((l : Int) / 4294967296) = (d1 : Int) := by omega
    have M1 : bits BinOp.and IntKind.u64 (v : Int) 4294967295 = (y0' : Int) := by rw [mask32 v hv2, hy0']
    have M2 : bits BinOp.and IntKind.u64 (l : Int) 4294967295 = (d0 : Int) := by rw [mask32 l hll, hd0]
    have b1 : 2147483648 ≤ y1 := by omega
    have b2 : y1 < 4294967296 := by omega
    have b3 : y0' < 4294967296 := by omega
    have b4 : d1 < 4294967296 := by omega
    have b5 : d0 < 4294967296 := by omega
    have hve : v = y1 * B + y0' := by rw [hy1, hy0', Nat.mul_comm]; exact (Nat.div_add_mod v 4294967296).symm
    have hle : l = d1 * B + d0 := by rw [hd1, hd0, Nat.mul_comm]; exact (Nat.div_add_mod l 4294967296).symm
    have z1 : ((y1 : Int) == 0) = false := by rw [beq_eq_false_iff_ne]; omega
    obtain ⟨G1, G2⟩ := wrap_first u y1 (by omega)
    have hkf := kn_first (d := d1) b1 b3 (hve ▸ hu) b4
    have hrr : u % y1 < 4294967296 := Nat.lt_trans (Nat.mod_lt u (by omega)) b2
    generalize u / y1 = g at *
    generalize u % y1 = rr at *
    have HKF := Aside0.mk hkf
    clear hkf
    have HLZ := Aside0.mk hlz
    have HN := Aside0.mk hN
    have HMV := Aside0.mk hmv
    have HVE := Aside0.mk hve
    have HLE := Aside0.mk hle
    have HU := Aside0.mk hu
    clear hlz hN hmv hve hle hs hy1 hy0' hd1 hd0
    go_enter Tryd.func55, Tryd.ntmps55
    go_wp2_with (go_at_call 64; with_reducible refine (HLZ.out _ (by omega) (by omega)).mono ?_; rintro e w' ⟨rfl, rfl⟩)
    have hB : v ≤ 18446744073709551616 := by omega
    have hvp : 0 < v := by omega
    obtain ⟨Q1, hQ1⟩ : ∃ q, q = (u * 4294967296 + d1) / v := ⟨_, rfl⟩
    obtain ⟨r1, hr1⟩ : ∃ q, q = (u * 4294967296 + d1) % v := ⟨_, rfl⟩
    obtain ⟨Q0, hQ0⟩ : ∃ q, q = (r1 * 4294967296 + d0) / v := ⟨_, rfl⟩
    obtain ⟨r0, hr0⟩ : ∃ q, q = (r1 * 4294967296 + d0) % v := ⟨_, rfl⟩
    have hr1v : r1 < v := by rw [hr1]; exact Nat.mod_lt _ hvp
    have R1 := wrap_rest u d1 Q1 v r1 hvp hB b4 hQ1 hr1
    have R2 := wrap_rest r1 d0 Q0 v r0 hvp hB b5 hQ0 hr0
    have hq1b : Q1 < 4294967296 := by rw [hQ1]; have := kn_lt (HVE.out ▸ HU.out) b4; rw [← HVE.out] at this; exact this
    have hq0b : Q0 < 4294967296 := by rw [hQ0]; have := kn_lt (HVE.out ▸ hr1v) b5; rw [← HVE.out] at this; exact this
    have hfin : Q1 * 4294967296 + Q0 = NQ ∧ r0 / 2 ^ s = NR := by
      have h := kn_two (v := v) (u := u) (d1 := d1) (d0 := d0) hvp
      rw [show B = 4294967296 from rfl, ← hQ1, ← hr1, ← hQ0, ← hr0] at h
      have e : (u * 4294967296 + d1) * 4294967296 + d0 = u * 18446744073709551616 + l := by
        have := HLE.out
        rw [B_eq] at this
        omega
      rw [e] at h
      exact ⟨h.1.trans HMV.out.1, by rw [h.2]; exact HMV.out.2⟩
    have HQ1 := Aside0.mk (show Q1 = (u * B + d1) / (y1 * B + y0') by rw [← HVE.out]; exact hQ1)
    have HQ0 := Aside0.mk (show Q0 = (r1 * B + d0) / (y1 * B + y0') by rw [← HVE.out]; exact hQ0)
    have HKU := Aside0.mk (show u < y1 * B + y0' by rw [← HVE.out]; exact HU.out)
    have HKR := Aside0.mk (show r1 < y1 * B + y0' by rw [← HVE.out]; exact hr1v)
    have F1 : (Q1 : Int) * 4294967296 + (Q0 : Int) = (NQ : Int) := by omega
    have F2 : ((r0 : Int) / 2 ^ s) = (NR : Int) := by rw [← hfin.2]; simp
    clear hQ1 hr1 hQ0 hr0 hfin HVE HLE HMV HN HLZ HU
    rename_i K hK
    have HEND1 : Aside0 (∀ (t0 t1 t3 t4 t5 t6 t7 t12 t16 t17 t18 t19 t20 t21 t22 t23 t24 t25 t26 t27 t28 t29 t30 t31 t32 t33 t34 t35 t36 t37 t38 t39 t40 t41 t42 t43 t44 t45 t46 t47 t48 t49 t50 t51 t52 t53 t54 t55 t56 t57 t58 t59 t60 t61 t62 t63 t64 t65 t66 t67 t68 t69 t70 t71 t72 t73 t74 t75 t76 t77 t78 t79 t80 t81 t82 t83 t84 t85 t86 t87 t88 t89 t90 t91 t92 t93 t94 t95 t96 t97 t98 t99 t100 t101 t102 t103 t104 t105 t106 t107 t108 t109 t110 t111 t112 t113 t114 t115 t116 t117 t118 t119 t120 t121 t122 t123 t124 t125 t126 t127 t128 t129 t130 t131 t132 t133 t134 : Value) (wf : World), Below w'.heap.size w' wf → K { tmps := #[t0, t1, .int .u64 (v : Int), t3, t4, t5, t6, t7, .int .u64 (s : Int), .int .u64 (y1 : Int), .int .u64 (y0' : Int), .int .u64 (u : Int), t12, .int .u64 (d1 : Int), .int .u64 (d0 : Int), .int .u64 (Q1 : Int), t16, t17, t18, t19, t20, t21, t22, t23, t24, t25, t26, t27, t28, t29, t30, t31, t32, t33, t34, t35, t36, t37, t38, t39, t40, t41, t42, t43, t44, t45, t46, t47, t48, t49, t50, t51, t52, t53, t54, t55, t56, t57, t58, t59, t60, t61, t62, t63, t64, t65, t66, t67, t68, t69, t70, t71, t72, t73, t74, t75, t76, t77, t78, t79, t80, t81, t82, t83, t84, t85, t86, t87, t88, t89, t90, t91, t92, t93, t94, t95, t96, t97, t98, t99, t100, t101, t102, t103, t104, t105, t106, t107, t108, t109, t110, t111, t112, t113, t114, t115, t116, t117, t118, t119, t120, t121, t122, t123, t124, t125, t126, t127, t128, t129, t130, t131, t132, t133, t134], defers := [] } wf) := ⟨by
      intro t0 t1 t3 t4 t5 t6 t7 t12 t16 t17 t18 t19 t20 t21 t22 t23 t24 t25 t26 t27 t28 t29 t30 t31 t32 t33 t34 t35 t36 t37 t38 t39 t40 t41 t42 t43 t44 t45 t46 t47 t48 t49 t50 t51 t52 t53 t54 t55 t56 t57 t58 t59 t60 t61 t62 t63 t64 t65 t66 t67 t68 t69 t70 t71 t72 t73 t74 t75 t76 t77 t78 t79 t80 t81 t82 t83 t84 t85 t86 t87 t88 t89 t90 t91 t92 t93 t94 t95 t96 t97 t98 t99 t100 t101 t102 t103 t104 t105 t106 t107 t108 t109 t110 t111 t112 t113 t114 t115 t116 t117 t118 t119 t120 t121 t122 t123 t124 t125 t126 t127 t128 t129 t130 t131 t132 t133 t134 wf hbf
      refine hK _ _ ?_
      have HBF := Aside0.mk hbf
      clear hK hbf HKF
      obtain ⟨G3, G4⟩ := wrap_first r1 y1 (by omega)
      have hkf := kn_first (d := d0) b1 b3 HKR.out b5
      have hrr : r1 % y1 < 4294967296 := Nat.lt_trans (Nat.mod_lt r1 (by omega)) b2
      generalize r1 / y1 = g2 at *
      generalize r1 % y1 = rr2 at *
      have HKF := Aside0.mk hkf
      clear hkf
      go_wp2
      rename_i K2 hK2
      have HQ_ := HQ0
      have HEND2 : Aside0 (∀ (t0 t1 t3 t4 t5 t6 t7 t9 t10 t11 t12 t13 t16 t19 t20 t21 t22 t23 t24 t25 t26 t27 t28 t29 t30 t31 t32 t33 t34 t35 t36 t37 t38 t39 t40 t41 t42 t43 t44 t45 t46 t47 t48 t49 t50 t51 t52 t53 t54 t55 t56 t57 t58 t59 t60 t61 t62 t63 t64 t65 t66 t67 t68 t69 t70 t71 t72 t73 t74 t75 t76 t77 t78 t79 t80 t81 t82 t83 t84 t85 t86 t87 t88 t89 t90 t91 t92 t93 t94 t95 t96 t97 t98 t99 t100 t101 t102 t103 t104 t105 t106 t107 t108 t109 t110 t111 t112 t113 t114 t115 t116 t117 t118 t119 t120 t121 t122 t123 t124 t125 t126 t127 t128 t129 t130 t131 t132 t133 t134 : Value), K2 { tmps := #[t0, t1, .int .u64 (v : Int), t3, t4, t5, t6, t7, .int .u64 (s : Int), t9, t10, t11, t12, t13, .int .u64 (d0 : Int), .int .u64 (Q1 : Int), t16, .int .u64 (r1 : Int), .int .u64 (Q0 : Int), t19, t20, t21, t22, t23, t24, t25, t26, t27, t28, t29, t30, t31, t32, t33, t34, t35, t36, t37, t38, t39, t40, t41, t42, t43, t44, t45, t46, t47, t48, t49, t50, t51, t52, t53, t54, t55, t56, t57, t58, t59, t60, t61, t62, t63, t64, t65, t66, t67, t68, t69, t70, t71, t72, t73, t74, t75, t76, t77, t78, t79, t80, t81, t82, t83, t84, t85, t86, t87, t88, t89, t90, t91, t92, t93, t94, t95, t96, t97, t98, t99, t100, t101, t102, t103, t104, t105, t106, t107, t108, t109, t110, t111, t112, t113, t114, t115, t116, t117, t118, t119, t120, t121, t122, t123, t124, t125, t126, t127, t128, t129, t130, t131, t132, t133, t134], defers := [] } wf) := ⟨by
        intro t0 t1 t3 t4 t5 t6 t7 t9 t10 t11 t12 t13 t16 t19 t20 t21 t22 t23 t24 t25 t26 t27 t28 t29 t30 t31 t32 t33 t34 t35 t36 t37 t38 t39 t40 t41 t42 t43 t44 t45 t46 t47 t48 t49 t50 t51 t52 t53 t54 t55 t56 t57 t58 t59 t60 t61 t62 t63 t64 t65 t66 t67 t68 t69 t70 t71 t72 t73 t74 t75 t76 t77 t78 t79 t80 t81 t82 t83 t84 t85 t86 t87 t88 t89 t90 t91 t92 t93 t94 t95 t96 t97 t98 t99 t100 t101 t102 t103 t104 t105 t106 t107 t108 t109 t110 t111 t112 t113 t114 t115 t116 t117 t118 t119 t120 t121 t122 t123 t124 t125 t126 t127 t128 t129 t130 t131 t132 t133 t134
        refine hK2 _ _ ?_
        clear hK2
        go_wp2
        refine bodyPost_ret (results_tmp2 rfl _ _ _) rfl ?_
        exact ⟨rfl, HBF.out⟩⟩
      clear hK2
      go_loop [18, 16] (fun qv rv => ∃ q r : Nat, qv = .int .u64 (q : Int) ∧ rv = .int .u64 (r : Int) ∧ Aside0 (Kn y1 y0' r1 d0 q r) ∧ q ≤ 4294967297 ∧ r < 4294967296) (fun qv _ => (intOf qv).toNat)
      case atStart => exact ⟨_, _, rfl, rfl, HKF.out.1 |> Aside0.mk, by have := HKF.out.2; have := B_eq; omega, hrr⟩
      case round =>
        obtain ⟨q, r, rfl, rfl, HKn, hq, hr⟩ := hrel
        have hgo := fun hc => kn_go HKn.out HKR.out b5 hc
        by_cases c1 : 4294967296 ≤ q
        · obtain ⟨hq0, hkn⟩ := hgo (.inl c1)
          have HG := Aside0.mk hkn
          clear hgo hkn
          have hqi : (4294967296 : Int) ≤ (q : Int) := by omega
          have hq1 : ((q : Int) - 1) = ((q - 1 : Nat) : Int) := by omega
          by_cases c3 : 4294967296 ≤ r + y1
          · have HE := Aside0.mk (kn_break HG.out (by omega) b3 (by have := B_eq; omega) c3)
            have c3i : (4294967296 : Int) ≤ (r : Int) + (y1 : Int) := by omega
            clear HG c1 c3
            go_wp2
            rw [HE.out, ← HQ_.out]
            exact HEND2.out _ _ _ _ _ _ _ _ _ _ _ _ _ _ _ _ _ _ _ _ _ _ _ _ _ _ _ _ _ _ _ _ _ _ _ _ _ _ _ _ _ _ _ _ _ _ _ _ _ _ _ _ _ _ _ _ _ _ _ _ _ _ _ _ _ _ _ _ _ _ _ _ _ _ _ _ _ _ _ _ _ _ _ _ _ _ _ _ _ _ _ _ _ _ _ _ _ _ _ _ _ _ _ _ _ _ _ _ _ _ _ _ _ _ _ _ _ _ _ _ _ _ _ _ _ _ _ _ _
          · have c3i : ¬ (4294967296 : Int) ≤ (r : Int) + (y1 : Int) := by omega
            have hr2 : r + y1 < 4294967296 := by omega
            go_wp2
            go_round
            case rel => exact ⟨q - 1, r + y1, rfl, by simp, HG, by omega, hr2⟩
            case measure => simp [intOf]; omega
        · have hqi : ¬ (4294967296 : Int) ≤ (q : Int) := by omega
          have hm : q * y0' < 18446744073709551616 := by
            have := Nat.mul_le_mul (show q ≤ 4294967295 by omega) (show y0' ≤ 4294967295 by omega)
            omega
          have hwm := wrap_mul_nat q y0' hm
          by_cases c2 : B * r + d0 < q * y0'
          · obtain ⟨hq0, hkn⟩ := hgo (.inr c2)
            have HG := Aside0.mk hkn
            clear hgo hkn
            rw [B_eq] at c2
            generalize q * y0' = m at *
            have c2i : 4294967296 * (r : Int) + (d0 : Int) < (m : Int) := by omega
            have hq1 : ((q : Int) - 1) = ((q - 1 : Nat) : Int) := by omega
            by_cases c3 : 4294967296 ≤ r + y1
            · have HE := Aside0.mk (kn_break HG.out (by omega) b3 (by have := B_eq; omega) c3)
              have c3i : (4294967296 : Int) ≤ (r : Int) + (y1 : Int) := by omega
              clear HG c1 c3
              go_wp2
              rw [HE.out, ← HQ_.out]
              exact HEND2.out _ _ _ _ _ _ _ _ _ _ _ _ _ _ _ _ _ _ _ _ _ _ _ _ _ _ _ _ _ _ _ _ _ _ _ _ _ _ _ _ _ _ _ _ _ _ _ _ _ _ _ _ _ _ _ _ _ _ _ _ _ _ _ _ _ _ _ _ _ _ _ _ _ _ _ _ _ _ _ _ _ _ _ _ _ _ _ _ _ _ _ _ _ _ _ _ _ _ _ _ _ _ _ _ _ _ _ _ _ _ _ _ _ _ _ _ _ _ _ _ _ _ _ _ _ _ _ _ _
            · have c3i : ¬ (4294967296 : Int) ≤ (r : Int) + (y1 : Int) := by omega
              have hr2 : r + y1 < 4294967296 := by omega
              go_wp2
              go_round
              case rel => exact ⟨q - 1, r + y1, rfl, by simp, HG, by omega, hr2⟩
              case measure => simp [intOf]; omega
          · have HE := Aside0.mk (kn_stop HKn.out (by omega) c2)
            rw [B_eq] at c2
            generalize q * y0' = m at *
            have c2i : ¬ 4294967296 * (r : Int) + (d0 : Int) < (m : Int) := by omega
            clear hgo
            go_wp2
            rw [HE.out, ← HQ_.out]
            exact HEND2.out _ _ _ _ _ _ _ _ _ _ _ _ _ _ _ _ _ _ _ _ _ _ _ _ _ _ _ _ _ _ _ _ _ _ _ _ _ _ _ _ _ _ _ _ _ _ _ _ _ _ _ _ _ _ _ _ _ _ _ _ _ _ _ _ _ _ _ _ _ _ _ _ _ _ _ _ _ _ _ _ _ _ _ _ _ _ _ _ _ _ _ _ _ _ _ _ _ _ _ _ _ _ _ _ _ _ _ _ _ _ _ _ _ _ _ _ _ _ _ _ _ _ _ _ _ _ _ _ _⟩
    clear hK
    have HQ_ := HQ1
    go_loop [15, 16] (fun qv rv => ∃ q r : Nat, qv = .int .u64 (q : Int) ∧ rv = .int .u64 (r : Int) ∧ Aside0 (Kn y1 y0' u d1 q r) ∧ q ≤ 4294967297 ∧ r < 4294967296) (fun qv _ => (intOf qv).toNat)
    case atStart => exact ⟨_, _, rfl, rfl, HKF.out.1 |> Aside0.mk, by have := HKF.out.2; have := B_eq; omega, hrr⟩
    case round =>
      obtain ⟨q, r, rfl, rfl, HKn, hq, hr⟩ := hrel
      have hgo := fun hc => kn_go HKn.out HKU.out b4 hc
      by_cases c1 : 4294967296 ≤ q
      · obtain ⟨hq0, hkn⟩ := hgo (.inl c1)
        have HG := Aside0.mk hkn
        clear hgo hkn
        have hqi : (4294967296 : Int) ≤ (q : Int) := by omega
        have hq1 : ((q : Int) - 1) = ((q - 1 : Nat) : Int) := by omega
        by_cases c3 : 4294967296 ≤ r + y1
        · have HE := Aside0.mk (kn_break HG.out (by omega) b3 (by have := B_eq; omega) c3)
          have c3i : (4294967296 : Int) ≤ (r : Int) + (y1 : Int) := by omega
          clear HG c1 c3
          go_wp2
          rw [HE.out, ← HQ_.out]
          exact HEND1.out _ _ _ _ _ _ _ _ _ _ _ _ _ _ _ _ _ _ _ _ _ _ _ _ _ _ _ _ _ _ _ _ _ _ _ _ _ _ _ _ _ _ _ _ _ _ _ _ _ _ _ _ _ _ _ _ _ _ _ _ _ _ _ _ _ _ _ _ _ _ _ _ _ _ _ _ _ _ _ _ _ _ _ _ _ _ _ _ _ _ _ _ _ _ _ _ _ _ _ _ _ _ _ _ _ _ _ _ _ _ _ _ _ _ _ _ _ _ _ _ _ _ _ _ _ _ _ _ (Below.refl _ _)
        · have c3i : ¬ (4294967296 : Int) ≤ (r : Int) + (y1 : Int) := by omega
          have hr2 : r + y1 < 4294967296 := by omega
          go_wp2
          go_round
          case rel => exact ⟨q - 1, r + y1, rfl, by simp, HG, by omega, hr2⟩
          case measure => simp [intOf]; omega
      · have hqi : ¬ (4294967296 : Int) ≤ (q : Int) := by omega
        have hm : q * y0' < 18446744073709551616 := by
          have := Nat.mul_le_mul (show q ≤ 4294967295 by omega) (show y0' ≤ 4294967295 by omega)
          omega
        have hwm := wrap_mul_nat q y0' hm
        by_cases c2 : B * r + d1 < q * y0'
        · obtain ⟨hq0, hkn⟩ := hgo (.inr c2)
          have HG := Aside0.mk hkn
          clear hgo hkn
          rw [B_eq] at c2
          generalize q * y0' = m at *
          have c2i : 4294967296 * (r : Int) + (d1 : Int) < (m : Int) := by omega
          have hq1 : ((q : Int) - 1) = ((q - 1 : Nat) : Int) := by omega
          by_cases c3 : 4294967296 ≤ r + y1
          · have HE := Aside0.mk (kn_break HG.out (by omega) b3 (by have := B_eq; omega) c3)
            have c3i : (4294967296 : Int) ≤ (r : Int) + (y1 : Int) := by omega
            clear HG c1 c3
            go_wp2
            rw [HE.out, ← HQ_.out]
            exact HEND1.out _ _ _ _ _ _ _ _ _ _ _ _ _ _ _ _ _ _ _ _ _ _ _ _ _ _ _ _ _ _ _ _ _ _ _ _ _ _ _ _ _ _ _ _ _ _ _ _ _ _ _ _ _ _ _ _ _ _ _ _ _ _ _ _ _ _ _ _ _ _ _ _ _ _ _ _ _ _ _ _ _ _ _ _ _ _ _ _ _ _ _ _ _ _ _ _ _ _ _ _ _ _ _ _ _ _ _ _ _ _ _ _ _ _ _ _ _ _ _ _ _ _ _ _ _ _ _ _ (Below.refl _ _)
          · have c3i : ¬ (4294967296 : Int) ≤ (r : Int) + (y1 : Int) := by omega
            have hr2 : r + y1 < 4294967296 := by omega
            go_wp2
            go_round
            case rel => exact ⟨q - 1, r + y1, rfl, by simp, HG, by omega, hr2⟩
            case measure => simp [intOf]; omega
        · have HE := Aside0.mk (kn_stop HKn.out (by omega) c2)
          rw [B_eq] at c2
          generalize q * y0' = m at *
          have c2i : ¬ 4294967296 * (r : Int) + (d1 : Int) < (m : Int) := by omega
          clear hgo
          go_wp2
          rw [HE.out, ← HQ_.out]
          exact HEND1.out _ _ _ _ _ _ _ _ _ _ _ _ _ _ _ _ _ _ _ _ _ _ _ _ _ _ _ _ _ _ _ _ _ _ _ _ _ _ _ _ _ _ _ _ _ _ _ _ _ _ _ _ _ _ _ _ _ _ _ _ _ _ _ _ _ _ _ _ _ _ _ _ _ _ _ _ _ _ _ _ _ _ _ _ _ _ _ _ _ _ _ _ _ _ _ _ _ _ _ _ _ _ _ _ _ _ _ _ _ _ _ _ _ _ _ _ _ _ _ _ _ _ _ _ _ _ _ _ (Below.refl _ _)
end Go.Proofs.YtaakniobgljniaaDoor.Hand
