/- nat.Norm by hand, where no other function of nat is called: a number in order. The lines stand in XHNatA too. -/
import Derived.Test.YtanjahakoadecaaDoorHNum
import Derived.Test.YtanjahakoadecaaDoorProg
import Derived.Test.YtanjahakoadecaaDoorWMore
import Derived.Test.YtanjahakoadecaaDoorWShare
import Derived.WalkKit
import Derived.KernelRfl
import Derived.Handy
import Derived.LoopTactic
import Derived.Maps.AppendAt
namespace Go.Proofs.YtanjahakoadecaaDoor.Hand
open Go.RowKit Go.Proofs.YtanjahakoadecaaDoorW.PrintWords Go.Proofs.YtanjahakoadecaaDoorW.PrintMore Go.Proofs.YtanjahakoadecaaDoor.Num
set_option linter.unusedVariables false
set_option linter.unusedSimpArgs false

/-- A slice of words that reads as l: in world w. -/
abbrev Rd (w : World) (A : Option Addr) (n : Nat) (l : List Int) : Prop := ReadsInt w .u64 A n l
theorem Rd.of_C {w : World} {A : Option Addr} {n : Nat} {l : List Int} (h : Kd.C (Kd.int .u64) w A n l) : Rd w A n l := Kd.reads_of_C (enc := Value.int .u64) (d := (0 : Int)) (h1 := fun _ => rfl) h
theorem Rd.to_C {w : World} {A : Option Addr} {n : Nat} {l : List Int} (h : Rd w A n l) : Kd.C (Kd.int .u64) w A n l := Kd.C_of_reads (d := (0 : Int)) (h1 := fun _ => rfl) h
theorem Rd.take {w : World} {A : Option Addr} {n : Nat} {l : List Int} (h : Rd w A n l) (k : Nat) (hk : k ≤ n) : Rd w A k (l.take k) := ReadsInt.take_ h k hk
theorem block_add (a : Addr) (n : Nat) : (a.add n).block = a.block := by unfold Addr.add; split <;> rfl
/-- What is read lies in one block: it is read on in each world that has this block. -/
theorem Rd.foot {w : World} {A : Option Addr} {n : Nat} {l : List Int} {ok : Nat → Prop} (h : Rd w A n l) (hok : ∀ ad, A = some ad → 0 < n → ok ad.block) : Kd.F (Kd.int .u64) w ok A n l := fun W' hW => Rd.to_C ⟨h.1, h.2.1, fun hn => by
  obtain ⟨ad, rfl, hc⟩ := h.2.2 hn
  refine ⟨ad, rfl, fun j hj => ?_⟩
  have hcj := hc j hj
  have hlt := World.block_lt_of_cell? w _ hcj
  rw [block_add] at hlt
  have hb := hW ad.block (hok ad rfl hn) hlt
  have : (ad.add j).block = ad.block := block_add ad j
  rw [World.cell?_of_block (w := w) (by rw [this]; exact hb)]
  exact hcj⟩
/-- The form in which a result is told: words that lie in blocks of ok. -/
abbrev Vw (w : World) (base : Nat) (ok : Nat → Prop) (v : Value) (l : List Int) : Prop := Kd.V (Kd.int .u64) 58 w base ok v l
theorem Vw.of_Rd {w : World} {base : Nat} {A : Option Addr} {n c : Nat} {l : List Int} {ok : Nat → Prop} (h : Rd w A n l) (hc : n ≤ c) (hok : ∀ ad, A = some ad → 0 < n → ok ad.block) : Vw w base ok (.slice A n c) l := by
  have hl : l.length = n := h.1
  subst hl
  exact ⟨A, c, rfl, hc, h.foot hok⟩
theorem Vw.reads {w : World} {base : Nat} {v : Value} {l : List Int} {ok : Nat → Prop} (h : Vw w base ok v l) : ∃ A c, v = .slice A l.length c ∧ l.length ≤ c ∧ Rd w A l.length l := by
  obtain ⟨A, c, rfl, hc, hf⟩ := h
  exact ⟨A, c, rfl, hc, Rd.of_C (Kd.F_now hf)⟩
theorem Vw.nil (w : World) (base : Nat) (ok : Nat → Prop) : Vw w base ok (.slice none 0 0) [] := Kd.V_nil _ _ _ _ _

theorem info64 : (Tryd.prog.info? 58).map (fun i => (i.zero, i.size, i.bytes)) = some (some (.int .u64 0), 1, 8) := by kernel_rfl

/-! ### nat.Norm -/
theorem run_cut3 (A : Option Addr) (n c m : Nat) (hm : m ≤ c) (W : World) :
    (Instr.slice 27 (.slice A n c) none (some (.int .i64 (m : Int))) (some (.int .i64 (m : Int)))).run Tryd.prog W = .ok (.slice A m m) W := by
  have h1 : (0 : Int) ≤ (m : Int) := by omega
  have h2 : (m : Int) ≤ (c : Int) := by omega
  obtain ⟨i, hi, hi2⟩ := Option.map_eq_some_iff.1 info64
  simp only [Prod.mk.injEq] at hi2
  have ha : (if m = 0 then A else A.map (·.add 0)) = A := by
    have : ∀ a : Addr, a.add 0 = a := fun a => by unfold Addr.add; simp
    split
    · rfl
    · cases A <;> simp [this]
  have e1 : ∀ w : World, (Instr.sliceBound (.int .i64 (m : Int)) c .slice3Acap).run Tryd.prog w = .ok m w := fun w => by rw [run_sliceBound _ _ _ _ _ h1 h2, Int.toNat_natCast]
  have e2 : ∀ w : World, (Instr.sliceBound (.int .i64 (m : Int)) m .slice3B).run Tryd.prog w = .ok m w := fun w => by rw [run_sliceBound _ _ _ _ _ h1 (Int.le_refl _), Int.toNat_natCast]
  simp [Instr.slice, run_underlying Tryd.underlying27, Instr.sliceBounds, e1, e2, sizeOf, typeInfo, hi, Result.andThen]
  simpa using ha

def NormPost (A : Option Addr) (l : List Int) (w : World) (e : Ending) (w' : World) : Prop :=
  ∃ m, m ≤ l.length ∧ l.take m = dig W (val W l) ∧ e = .returned (.slice A m m) ∧ w = w'
theorem nat_norm (A : Option Addr) (c : Nat) (l : List Int) (w : World) (hr : Rd w A l.length l) (hc : l.length ≤ c) (hb : InB W l) :
    Calls Tryd.prog 35 #[.slice A l.length c] w (NormPost A l w) := by
  have hmax := hr.2.1
  obtain ⟨n, hn⟩ : ∃ n, n = l.length := ⟨_, rfl⟩
  have HR := Aside0.mk hr
  have HN := Aside0.mk hn
  have HB := Aside0.mk hb
  rw [← hn] at hmax hc ⊢
  clear hr hb hn
  go_enter Tryd.func35, Tryd.ntmps35
  go_wp2
  go_loop [3] (fun t => ∃ k : Nat, k ≤ n ∧ t = .int .i64 k ∧ Aside0 (∀ j, k ≤ j → l.getD j 0 = 0)) (fun t => (intOf t).toNat)
  case atStart => exact ⟨n, Nat.le_refl _, rfl, ⟨fun j hj => by rw [List.getD_eq_getElem?_getD, List.getElem?_eq_none (by rw [← HN.out]; exact hj)]; rfl⟩⟩
  case round =>
    obtain ⟨k, hk, rfl, HZ⟩ := hrel
    rcases Nat.eq_zero_or_pos k with rfl | hk0
    · have hcut := run_cut3 A n c 0 (by omega)
      go_wp2
      go_ret
      obtain ⟨ho, hv⟩ := take_norm (B := W) (l := l) (n := 0) (by omega) (.inl rfl) HZ.out
      exact ⟨0, by omega, dig_of W_gt (inB_take HB.out 0) ho hv, rfl, rfl⟩
    · obtain ⟨j, rfl⟩ : ∃ j, k = j + 1 := ⟨k - 1, by omega⟩
      have hcut := run_cut3 A n c (j + 1) (by omega)
      obtain ⟨ad, hA, hcell⟩ := HR.out.2.2 (by have := HN.out; omega)
      have hcj := hcell j (by have := HN.out; omega)
      clear hcell
      obtain ⟨x, hx⟩ : ∃ x, x = l.getD j 0 := ⟨_, rfl⟩
      rw [← hx] at hcj
      have HX := Aside0.mk hx
      subst hA
      clear hx
      by_cases h0 : x = 0
      · subst h0
        go_wp2
        go_round
        case rel => exact ⟨j, by omega, by go_num, ⟨fun i hi => by
          rcases Nat.lt_or_ge j i with h | h
          · exact HZ.out i h
          · obtain rfl : i = j := by omega
            exact HX.out.symm⟩⟩
        case measure => simp [intOf]
      · have hx0 : (x == 0) = false := by simpa using h0
        have HX0 := Aside0.mk h0
        clear h0
        go_wp2
        go_ret
        obtain ⟨ho, hv⟩ := take_norm (B := W) (l := l) (n := j + 1) (by have := HN.out; omega) (.inr (by rw [Nat.add_sub_cancel, ← HX.out]; exact HX0.out)) HZ.out
        exact ⟨j + 1, by have := HN.out; omega, dig_of W_gt (inB_take HB.out _) ho hv, rfl, rfl⟩
/-- nat.Norm, how long it leaves the row said. -/
theorem nat_norm_at (A : Option Addr) (n c : Nat) (l : List Int) (w : World) (hr : Rd w A n l) (hc : n ≤ c) (hb : InB Num.W l) :
    Calls Tryd.prog 35 #[.slice A n c] w fun e w' => e = .returned (.slice A (dig Num.W (val Num.W l)).length (dig Num.W (val Num.W l)).length) ∧ w = w' := by
  have hl : l.length = n := hr.1
  subst hl
  refine (nat_norm A c l w hr hc hb).mono ?_
  rintro e w' ⟨m, hm, he, rfl, rfl⟩
  rw [← he, List.length_take, Nat.min_eq_left hm]
  exact ⟨rfl, rfl⟩
theorem val_take_lt {a : List Int} (h : InB W a) (k : Nat) : val W (a.take k) < W ^ k := by
  have h1 := val_lt W_pos (inB_take h k)
  exact Nat.lt_of_lt_of_le h1 (Nat.pow_le_pow_right W_pos (List.length_take_le k a))
theorem norm_facts {l : List Int} (hb : InB Num.W l) : (dig Num.W (val Num.W l)).length ≤ l.length ∧ l.take (dig Num.W (val Num.W l)).length = dig Num.W (val Num.W l) := by
  have hlt := val_lt Num.W_pos hb
  have h1 := dig_length_le Num.W_gt hlt
  have hval : val Num.W l < Num.W ^ (dig Num.W (val Num.W l)).length := by have := val_lt Num.W_pos (dig_inB Num.W_gt (val Num.W l)); rwa [val_dig Num.W_gt] at this
  refine ⟨h1, dig_of Num.W_gt (inB_take hb _) ?_ ?_⟩
  · rcases Nat.eq_zero_or_pos (dig Num.W (val Num.W l)).length with h | h
    · rw [h]; exact .inl (by simp)
    · obtain ⟨k, hk⟩ : ∃ k, (dig Num.W (val Num.W l)).length = k + 1 := ⟨_, (Nat.succ_pred_eq_of_pos h).symm⟩
      rw [hk]
      refine .inr ?_
      have h0 : l.getD k 0 ≠ 0 := fun h0 => by
        have e := val_take_succ Num.W l k
        have hz : val Num.W (l.drop (k + 1)) = 0 := by
          have h3 : val Num.W l < Num.W ^ (k + 1) := by rw [← hk]; exact hval
          rw [val_drop_div Num.W_pos hb (k + 1) (by omega), Nat.div_eq_of_lt h3]
        have e2 := val_take_drop Num.W l (k + 1) (by omega)
        rw [hz, Nat.mul_zero, Nat.add_zero] at e2
        rw [h0, show Int.toNat 0 = 0 from rfl, Nat.mul_zero, Nat.add_zero] at e
        have h4 : val Num.W l < Num.W ^ k := by rw [e2, e]; exact val_take_lt hb k
        have := dig_length_le Num.W_gt h4
        omega
      rw [List.getLastD_eq_getLast?, List.getLast?_eq_getElem?, List.length_take, Nat.min_eq_left (by omega), List.getElem?_take, if_pos (by omega), Nat.add_sub_cancel]
      rwa [List.getD_eq_getElem?_getD] at h0
  · have e2 := val_take_drop Num.W l (dig Num.W (val Num.W l)).length h1
    rw [val_take_mod Num.W_pos hb _ h1, Nat.mod_eq_of_lt hval]
end Go.Proofs.YtanjahakoadecaaDoor.Hand
