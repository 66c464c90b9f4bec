/- mont.Make by hand: what it answers, and that the machine's call comes to it. Conditions: the argument is a number of 32 bits. -/
import Derived.Test.YtaakniobgljniaaDoorProg
import Derived.Test.YtaakniobgljniaaDoorWWords
import Derived.WalkKit
import Derived.KernelRfl
import Derived.Handy
import Derived.RegionTactic
import Derived.IntWalk
import Derived.RowKit
namespace Go.Proofs.YtaakniobgljniaaDoor.Hand
open Go.RowKit Go.Proofs.YtaakniobgljniaaDoorW.PrintWords

/-- The inverse, behind i betterings. -/
def invs (m : Int) : Nat → Int
  | 0 => 1
  | i + 1 => (invs m i * ((2 - m * invs m i) % 4294967296)) % 4294967296
theorem invs_range (m : Int) (i : Nat) : 0 ≤ invs m i ∧ invs m i < 4294967296 := by
  cases i with
  | zero => simp [invs]
  | succ i => unfold invs; omega

theorem sq_range {s : Int} (h0 : 0 ≤ s) (h1 : s < 2147483648) : 0 ≤ s * s ∧ s * s < 4611686018427387904 := by
  obtain ⟨n, rfl⟩ := Int.eq_ofNat_of_zero_le h0
  have h2 : n * n ≤ 2147483647 * 2147483647 := Nat.mul_le_mul (by omega) (by omega)
  have h3 : ((n : Int) * (n : Int)) = ((n * n : Nat) : Int) := by simp
  omega
/-- What Make answers. -/
def mont_Make.f (a0 : Int) : Option (Int × Int × Int × Int × Int) :=
  if 0 ≤ a0 ∧ a0 < 4294967296 then
    if a0 % 2 = 0 ∨ a0 < 3 ∨ 2147483648 ≤ a0 then some (0, 0, 0, 0, 1)
    else some (a0, (-(invs a0 5)) % 4294967296, 4294967296 % a0, (4294967296 % a0) * (4294967296 % a0) % a0, 0)
  else none

theorem better (b c : Nat) (m x : Int) (w : World)
    (h1 : w.heap[b]? = some (.cells #[.int .u32 x] 23 (0, 0))) (h2 : w.heap[c]? = some (.cells #[.int .u32 m] 23 (0, 0))) :
    Calls Tryd.prog 52 #[.pointer (some ⟨b, 0, none⟩), .pointer (some ⟨c, 0, none⟩)] w fun e w' =>
      e = .returned (.tuple #[]) ∧ w' = w.setCell ⟨b, 0, none⟩ (.int .u32 ((x * ((2 - m * x) % 4294967296)) % 4294967296)) := by
  have c1 : w.cell? ⟨b, 0, none⟩ = some (.int .u32 x) := by simp [World.cell?, h1]
  have c2 : w.cell? ⟨c, 0, none⟩ = some (.int .u32 m) := by simp [World.cell?, h2]
  have f1 : w.frozen? ⟨b, 0, none⟩ = false := by simp [World.frozen?, h1]
  clear h1 h2
  go_enter Tryd.func52, Tryd.ntmps52
  go_wp2
  go_end0
  exact ⟨rfl, rfl⟩

theorem mont_Make.calls (a0 r1 r2 r3 r4 r5 : Int) (w : World) (h : mont_Make.f a0 = some (r1, r2, r3, r4, r5)) :
    Calls Tryd.prog 27 #[.int .u32 a0] w fun e w' => e = .returned (.tuple #[.agg #[.int .u32 r1, .int .u32 r2, .int .u32 r3, .int .u32 r4], .int .i64 r5]) ∧ Below w.heap.size w w' := by
  unfold mont_Make.f at h
  by_cases hr : 0 ≤ a0 ∧ a0 < 4294967296
  · rw [if_pos hr] at h
    obtain ⟨h0, h1⟩ := hr
    by_cases c1 : a0 % 2 = 0
    · rw [if_pos (.inl c1)] at h
      simp only [Option.some.injEq, Prod.mk.injEq] at h
      obtain ⟨rfl, rfl, rfl, rfl, rfl⟩ := h
      have c1b : (a0 % 2 == 0) = true := by simpa using c1
      clear c1
      go_enter Tryd.func27, Tryd.ntmps27
      go_wp2
      refine bodyPost_ret (v := .tuple #[.agg #[.int .u32 0, .int .u32 0, .int .u32 0, .int .u32 0], .int .i64 1]) (by simp [results, Tryd.results27, go_sem]) rfl ⟨rfl, ?_⟩
      go_grown
    · by_cases c2 : a0 < 3
      · rw [if_pos (.inr (.inl c2))] at h
        simp only [Option.some.injEq, Prod.mk.injEq] at h
        obtain ⟨rfl, rfl, rfl, rfl, rfl⟩ := h
        have c1b : (a0 % 2 == 0) = false := by simpa using c1
        have c2b : decide (a0 < 3) = true := by simpa using c2
        clear c1 c2
        go_enter Tryd.func27, Tryd.ntmps27
        go_wp2
        refine bodyPost_ret (v := .tuple #[.agg #[.int .u32 0, .int .u32 0, .int .u32 0, .int .u32 0], .int .i64 1]) (by simp [results, Tryd.results27, go_sem]) rfl ⟨rfl, ?_⟩
        go_grown
      · by_cases c3 : 2147483648 ≤ a0
        · rw [if_pos (.inr (.inr c3))] at h
          simp only [Option.some.injEq, Prod.mk.injEq] at h
          obtain ⟨rfl, rfl, rfl, rfl, rfl⟩ := h
          have c1b : (a0 % 2 == 0) = false := by simpa using c1
          have c2b : decide (a0 < 3) = false := by simpa using c2
          have c3b : decide (2147483648 ≤ a0) = true := by simpa using c3
          clear c1 c2 c3
          go_enter Tryd.func27, Tryd.ntmps27
          go_wp2
          refine bodyPost_ret (v := .tuple #[.agg #[.int .u32 0, .int .u32 0, .int .u32 0, .int .u32 0], .int .i64 1]) (by simp [results, Tryd.results27, go_sem]) rfl ⟨rfl, ?_⟩
          go_grown
        · rw [if_neg (by omega)] at h
          simp only [Option.some.injEq, Prod.mk.injEq] at h
          obtain ⟨rfl, rfl, rfl, rfl, rfl⟩ := h
          have c1b : (a0 % 2 == 0) = false := by simpa using c1
          have c2b : decide (a0 < 3) = false := by simpa using c2
          have c3b : decide (2147483648 ≤ a0) = false := by simpa using c3
          have c4 : (a0 == 0) = false := by simp; omega
          clear c1
          go_enter Tryd.func27, Tryd.ntmps27
          go_wp2_with (fail)
          go_loopw [20] (fun i wr => ∃ k : Nat, k ≤ 5 ∧ i = .int .i64 k ∧ wr.heap[w.heap.size + 1 + 1]? = some (.cells #[.int .u32 (invs a0 k)] 23 (0, 0)) ∧
              wr.heap[w.heap.size]? = some (.cells #[.int .u32 a0] 23 (0, 0)) ∧
              wr.heap[w.heap.size + 1]? = some (.cells #[.int .u32 0, .int .u32 0, .int .u32 0, .int .u32 0] 60 (0, 0)) ∧ Below w.heap.size w wr)
            (fun i _ => 5 - (intOf i).toNat)
          case atStart =>
            exact ⟨0, by omega, rfl, by simpa [invs] using blk_new ((w.alloc (.cells #[.int .u32 a0] 23)).alloc (.cells #[.int .u32 0, .int .u32 0, .int .u32 0, .int .u32 0] 60)) (.cells #[.int .u32 1] 23),
              blk_alloc (blk_alloc (blk_new w _) _) _, blk_alloc (by simpa using blk_new (w.alloc (.cells #[.int .u32 a0] 23)) (.cells #[.int .u32 0, .int .u32 0, .int .u32 0, .int .u32 0] 60)) _, by go_grown⟩
          case round =>
            obtain ⟨k, hk, rfl, hi, hm, hx, hb⟩ := hrel
            have hc1 : wr.cell? ⟨w.heap.size + 1 + 1, 0, none⟩ = some (.int .u32 (invs a0 k)) := by simp [World.cell?, hi]
            have hc2 : wr.cell? ⟨w.heap.size, 0, none⟩ = some (.int .u32 a0) := by simp [World.cell?, hm]
            by_cases hlt : k < 5
            · have HI := Aside0.mk hi
              have HM := Aside0.mk hm
              have HX := Aside0.mk hx
              have HB := Aside0.mk hb
              clear hi hm hx hb
              go_wp2_with (go_at_call 52; refine (better _ _ _ _ _ HI.out HM.out).mono ?_; rintro e w' ⟨rfl, rfl⟩)
              go_roundw
              case rel =>
                exact ⟨k + 1, by omega, by go_num, by simpa [invs] using blk_set HI.out 0 (.int .u32 (invs a0 (k + 1))), blk_far HM.out (by simp; omega) _, blk_far HX.out (by simp) _, below_set HB.out (by omega)⟩
              case measure => simp [intOf]; omega
            · obtain rfl : k = 5 := by omega
              have hc30 : wr.cell? ⟨w.heap.size + 1, 0, none⟩ = some (.int .u32 0) := blk_cell hx 0
              have hc31 : wr.cell? ⟨w.heap.size + 1, 1, none⟩ = some (.int .u32 0) := blk_cell hx 1
              have hc32 : wr.cell? ⟨w.heap.size + 1, 2, none⟩ = some (.int .u32 0) := blk_cell hx 2
              have hc33 : wr.cell? ⟨w.heap.size + 1, 3, none⟩ = some (.int .u32 0) := blk_cell hx 3
              have hf3 : ∀ j, wr.frozen? ⟨w.heap.size + 1, j, none⟩ = false := blk_frozen hx
              have HX := Aside0.mk hx
              have HB := Aside0.mk hb
              clear hi hm hx hb
              obtain ⟨hg1, hg2⟩ := invs_range a0 5
              obtain ⟨s, hs⟩ : ∃ s, s = 4294967296 % a0 := ⟨_, rfl⟩
              have hs0 : 0 ≤ s := by rw [hs]; exact Int.emod_nonneg _ (by omega)
              have hs1 : s < 2147483648 := by have := Int.emod_lt_of_pos 4294967296 (show 0 < a0 by omega); omega
              have hs2 : 4294967296 % a0 % 4294967296 = s := by omega
              have hp := sq_range hs0 hs1
              have hs3 : IntKind.u64.wrap (s * s) = s * s := IntWalk.u64_in _ (by omega)
              have hp0 : 0 ≤ s * s := by omega
              have hs4 : s * s % a0 % 4294967296 = s * s % a0 := by
                have := Int.emod_lt_of_pos (s * s) (show 0 < a0 by omega)
                have := Int.emod_nonneg (s * s) (show a0 ≠ 0 by omega)
                omega
              have HP := Aside0.mk hp
              have HS := Aside0.mk hs
              clear hp hs
              go_wp2
              go_region
              all_goals
                have hz := blk_set (blk_set (blk_set (blk_set HX.out 0 (.int .u32 a0)) 1 (.int .u32 (-invs a0 5 % 4294967296))) 2 (.int .u32 s)) 3 (.int .u32 (s * s % a0))
                have z0 := blk_cell hz 0
                have z1 := blk_cell hz 1
                have z2 := blk_cell hz 2
                have z3 := blk_cell hz 3
                simp only [List.setIfInBounds_toArray, List.set_cons_zero, List.set_cons_succ, List.getElem?_toArray, List.getElem?_cons_zero, List.getElem?_cons_succ] at z0 z1 z2 z3
                clear hz
                go_wp2
                refine bodyPost_ret (v := .tuple #[.agg #[.int .u32 a0, .int .u32 (-invs a0 5 % 4294967296), .int .u32 s, .int .u32 (s * s % a0)], .int .i64 0]) (by simp [results, Tryd.results27, go_sem, z0, z1, z2, z3]) rfl ⟨by rw [HS.out], ?_⟩
                have hb := HB.out
                go_grown
  · rw [if_neg hr] at h
    cases h
end Go.Proofs.YtaakniobgljniaaDoor.Hand
