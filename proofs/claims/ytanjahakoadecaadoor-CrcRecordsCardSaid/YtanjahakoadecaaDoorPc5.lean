/- Contracts of functions and laws, written by this session's program myprint.py by way of the kit's print. -/
import Derived.Test.YtanjahakoadecaaDoorPc0
import Derived.Test.YtanjahakoadecaaDoorHCrcZ
import Derived.Test.YtanjahakoadecaaDoorPc1
import Derived.Test.YtanjahakoadecaaDoorPc2
namespace Go.Proofs.YtanjahakoadecaaDoor.Pc
open Go.RowKit Go.Proofs.YtanjahakoadecaaDoor.Hand Go.Proofs.YtanjahakoadecaaDoorW.PrintWords Go.Proofs.YtanjahakoadecaaDoorW.PrintLast Go.Proofs.YtanjahakoadecaaDoorW.PrintMore
attribute [local go_sem] max2_int min2_int max_two min_two max_three min_three max_four min_four   -- for this text's walks alone
set_option linter.unusedVariables false
set_option linter.unusedSimpArgs false

attribute [local go_sem high] eqA23 eqA26
/-! ### slices_Equal_uint64_uint64: function 25 -/
def slices_Equal_uint64_uint64.l0 : Nat → List Int → List Int → Int → Int → Option (Bool)
  | 0, _, _, _, _ => none
  | k + 1, x0, x1, x12, x13 => if x13 < x12 then (if 0 ≤ x13 then (if x13 < (x0.length : Int) then (if x13 < (x1.length : Int) then (if (rd x0 x13) = (rd x1 x13) then (slices_Equal_uint64_uint64.l0 k x0 x1 x12 (wrap64 (x13 + 1))) else (some false)) else (none)) else (none)) else (none)) else (some true)
def slices_Equal_uint64_uint64.f (k : Nat) (l0 : List Int) (l1 : List Int) : Option (Bool) := if (l0.length : Int) = (l1.length : Int) then (slices_Equal_uint64_uint64.l0 k l0 l1 (l0.length : Int) 0) else (some false)
theorem slices_Equal_uint64_uint64.mono_l : ∀ k, (∀ y0 y1 y2 y3, LeO (slices_Equal_uint64_uint64.l0 k y0 y1 y2 y3) (slices_Equal_uint64_uint64.l0 (k + 1) y0 y1 y2 y3))
  | 0 => fun _ _ _ _ r h => by simp [slices_Equal_uint64_uint64.l0] at h
  | k + 1 => by
    have ih0 := slices_Equal_uint64_uint64.mono_l k
    · intro y0 y1 y2 y3
      unfold slices_Equal_uint64_uint64.l0
      repeat' first
      | (with_reducible exact ih0 _ _ _ _)
      | (with_reducible exact LeO.refl _)
      | (with_reducible exact LeO.none _)
      | (with_reducible refine LeO.ite ?_ ?_)
      | (with_reducible refine LeO.bind ?_ (fun _ => ?_))
      | exact ih0 _ _ _ _
      | exact LeO.none _
      | refine LeO.ite ?_ ?_
      | refine LeO.bind ?_ (fun _ => ?_)
theorem slices_Equal_uint64_uint64.mono : ∀ a0 a1 k, LeO (slices_Equal_uint64_uint64.f k a0 a1) (slices_Equal_uint64_uint64.f (k + 1) a0 a1) := by
  intro a0 a1 k
  have ih0 := slices_Equal_uint64_uint64.mono_l k
  unfold slices_Equal_uint64_uint64.f
  repeat' first
      | (with_reducible exact ih0 _ _ _ _)
      | (with_reducible exact LeO.refl _)
      | (with_reducible exact LeO.none _)
      | (with_reducible refine LeO.ite ?_ ?_)
      | (with_reducible refine LeO.bind ?_ (fun _ => ?_))
      | exact ih0 _ _ _ _
      | exact LeO.none _
      | refine LeO.ite ?_ ?_
      | refine LeO.bind ?_ (fun _ => ?_)
set_option maxHeartbeats 8000000 in
set_option maxRecDepth 100000 in
theorem slices_Equal_uint64_uint64.calls (k : Nat) (A0 : Option Addr) (c0 : Nat) (l0 : List Int) (A1 : Option Addr) (c1 : Nat) (l1 : List Int) (r : Bool) (w : World) (hr0 : Kd.C (Kd.int .u64) w A0 l0.length l0) (hc0 : l0.length ≤ c0) (hr1 : Kd.C (Kd.int .u64) w A1 l1.length l1) (hc1 : l1.length ≤ c1) (h : slices_Equal_uint64_uint64.f k l0 l1 = some r) :
    Calls Tryd.prog 25 #[.slice A0 l0.length c0, .slice A1 l1.length c1] w fun e w' => e = .returned (.bool r) ∧ Drawn0 w w' := by
  have HR0 := zm hr0
  have HC0 := zm hc0
  clear hr0 hc0
  have HR1 := zm hr1
  have HC1 := zm hc1
  clear hr1 hc1
  have H : (if (l0.length : Int) = (l1.length : Int) then (slices_Equal_uint64_uint64.l0 k l0 l1 (l0.length : Int) 0) else (some false)) = some r := h
  clear h
  by_cases c3 : (l0.length : Int) = (l1.length : Int)
  · rw [if_pos c3] at H
    have c3b0 : ((l0.length : Int) == (l1.length : Int)) = true := beq_iff_eq.mpr c3
    have c3b1 : ((l0.length : Int) != (l1.length : Int)) = false := bne_eq_false_iff_eq.mpr c3
    have c3b2 : (l0.length == l1.length) = true := by first | simpa using c3 | (simp at c3 ⊢; omega)
    clear c3
    have H' := zm H
    clear H
    go_enter Tryd.func25, Tryd.ntmps25
    go_wp2
    repeat (go_quiet (fail); try go_wp2)
    go_loopg [13] k (fun kq v13 w' => ∃ (x13_1 : Int), v13 = .int .i64 x13_1 ∧ Aside0 (slices_Equal_uint64_uint64.l0 kq l0 l1 (l0.length : Int) x13_1 = some r) ∧ Aside0 (kq ≤ k) ∧ Drawn0 w w')
    case atStart => exact ⟨(0), (by first | rfl | (simp; done) | (simp [*]; done)), H', ⟨Nat.le_refl _⟩, by repeat (first | exact Drawn0.refl _ | apply Drawn0.step)⟩
    case round =>
      clear H'
      try clear c1
      try clear c2
      try clear p2
      try clear c3
      try clear c3b0
      try clear c3b1
      try clear c3b2
      obtain ⟨x13_1, rfl, HA, HK1, ⟨m1, rfl⟩⟩ := hrel
      cases gk with
      | zero => exact absurd HA.out (by simp [slices_Equal_uint64_uint64.l0])
      | succ k1 =>
        have H := HA.out
        clear HA
        simp only [slices_Equal_uint64_uint64.l0] at H
        by_cases c4 : x13_1 < (l0.length : Int)
        · rw [if_pos c4] at H
          have c4b0 : decide (x13_1 < (l0.length : Int)) = true := decide_eq_true c4
          clear c4
          by_cases c5 : 0 ≤ x13_1
          · rw [if_pos c5] at H
            have c5b0 : decide (0 ≤ x13_1) = true := decide_eq_true c5
            clear c5
            by_cases c6 : x13_1 < (l0.length : Int)
            · rw [if_pos c6] at H
              have c6b0 : decide (x13_1 < (l0.length : Int)) = true := decide_eq_true c6
              clear c6
              by_cases c7 : x13_1 < (l1.length : Int)
              · rw [if_pos c7] at H
                have c7b0 : decide (x13_1 < (l1.length : Int)) = true := decide_eq_true c7
                clear c7
                by_cases c8 : (rd l0 x13_1) = (rd l1 x13_1)
                · rw [if_pos c8] at H
                  have c8b0 : ((rd l0 x13_1) == (rd l1 x13_1)) = true := beq_iff_eq.mpr c8
                  have c8b1 : ((rd l0 x13_1) != (rd l1 x13_1)) = false := bne_eq_false_iff_eq.mpr c8
                  clear c8
                  have H' := zm H
                  clear H
                  have p138 : 0 ≤ (x13_1 : Int) := of_decide_eq_true (by first | (with_reducible assumption) | assumption)
                  have q138 : x13_1 < (l0.length : Int) := of_decide_eq_true (by first | (with_reducible assumption) | assumption)
                  obtain ⟨ad138, e138, hx138_0⟩ := Kd.at_int HR0.out x13_1 p138 q138
                  cases e138
                  replace p138 := eq_true p138
                  replace q138 := eq_true q138
                  have p139 : 0 ≤ (x13_1 : Int) := of_decide_eq_true (by first | (with_reducible assumption) | assumption)
                  have q139 : x13_1 < (l1.length : Int) := of_decide_eq_true (by first | (with_reducible assumption) | assumption)
                  obtain ⟨ad139, e139, hx139_0⟩ := Kd.at_int HR1.out x13_1 p139 q139
                  cases e139
                  replace p139 := eq_true p139
                  replace q139 := eq_true q139
                  go_wp2
                  repeat (go_quiet (fail); try go_wp2)
                  go_roundg k1
                  case measure => have := HK1.out; omega
                  case rel => exact ⟨(wrap64 (x13_1 + 1)), (by first | rfl | (simp; done) | (simp [*]; done)), H', ⟨by have := HK1.out; omega⟩, by repeat (first | exact Drawn0.refl _ | apply Drawn0.step)⟩
                · rw [if_neg c8] at H
                  have c8b0 : ((rd l0 x13_1) == (rd l1 x13_1)) = false := beq_eq_false_iff_ne.mpr c8
                  have c8b1 : ((rd l0 x13_1) != (rd l1 x13_1)) = true := bne_iff_ne.mpr c8
                  obtain rfl := Option.some.inj H
                  have p138 : 0 ≤ (x13_1 : Int) := of_decide_eq_true (by first | (with_reducible assumption) | assumption)
                  have q138 : x13_1 < (l0.length : Int) := of_decide_eq_true (by first | (with_reducible assumption) | assumption)
                  obtain ⟨ad138, e138, hx138_0⟩ := Kd.at_int HR0.out x13_1 p138 q138
                  cases e138
                  replace p138 := eq_true p138
                  replace q138 := eq_true q138
                  have p139 : 0 ≤ (x13_1 : Int) := of_decide_eq_true (by first | (with_reducible assumption) | assumption)
                  have q139 : x13_1 < (l1.length : Int) := of_decide_eq_true (by first | (with_reducible assumption) | assumption)
                  obtain ⟨ad139, e139, hx139_0⟩ := Kd.at_int HR1.out x13_1 p139 q139
                  cases e139
                  replace p139 := eq_true p139
                  replace q139 := eq_true q139
                  go_wp2
                  repeat (go_quiet (fail); try go_wp2)
                  go_ret
                  exact ⟨by first | rfl | (simp; done) | (simp [*]; done), by repeat (first | exact Drawn0.refl _ | apply Drawn0.step)⟩
              · rw [if_neg c7] at H
                exact absurd H (by simp)
            · rw [if_neg c6] at H
              exact absurd H (by simp)
          · rw [if_neg c5] at H
            exact absurd H (by simp)
        · rw [if_neg c4] at H
          have c4b0 : decide (x13_1 < (l0.length : Int)) = false := decide_eq_false c4
          clear c4
          obtain rfl := Option.some.inj H
          go_wp2
          repeat (go_quiet (fail); try go_wp2)
          go_ret
          exact ⟨by first | rfl | (simp; done) | (simp [*]; done), by repeat (first | exact Drawn0.refl _ | apply Drawn0.step)⟩
  · rw [if_neg c3] at H
    have c3b0 : ((l0.length : Int) == (l1.length : Int)) = false := beq_eq_false_iff_ne.mpr c3
    have c3b1 : ((l0.length : Int) != (l1.length : Int)) = true := bne_iff_ne.mpr c3
    have c3b2 : (l0.length == l1.length) = false := by first | simpa using c3 | (simp at c3 ⊢; omega)
    obtain rfl := Option.some.inj H
    go_enter Tryd.func25, Tryd.ntmps25
    go_wp2
    repeat (go_quiet (fail); try go_wp2)
    go_ret
    exact ⟨by first | rfl | (simp; done) | (simp [*]; done), by repeat (first | exact Drawn0.refl _ | apply Drawn0.step)⟩

/-! ### crc_Same: function 12 -/
def crc_Same.f (k : Nat) (a0_0 : Int) (a0_1 : Int) (a0_2 : Int) (a0_3 : Int) (a0_4 : Int) (l0_5 : List Int) (l0_6 : List Int) (l0_7 : List Int) (a0_8 : Bool) (a1_0 : Int) (a1_1 : Int) (a1_2 : Int) (a1_3 : Int) (a1_4 : Int) (l1_5 : List Int) (l1_6 : List Int) (l1_7 : List Int) (a1_8 : Bool) : Option (Bool) := (slices_Equal_uint64_uint64.f k l0_5 l1_5).bind fun t142 => (if t142 = true then ((slices_Equal_uint64_uint64.f k l0_6 l1_6).bind fun t143 => (if t143 = true then ((slices_Equal_uint64_uint64.f k l0_7 l1_7).bind fun t144 => (if t144 = true then (if (a0_0 == a1_0 && (a0_1 == a1_1 && (a0_2 == a1_2))) = true then (if (a0_3 == a1_3 && (a0_4 == a1_4)) = true then (some (a0_8 == a1_8)) else (some false)) else (some false)) else (some false))) else (some false))) else (some false))
theorem crc_Same.mono : ∀ a0 a1 a2 a3 a4 a5 a6 a7 a8 a9 a10 a11 a12 a13 a14 a15 a16 a17 k, LeO (crc_Same.f k a0 a1 a2 a3 a4 a5 a6 a7 a8 a9 a10 a11 a12 a13 a14 a15 a16 a17) (crc_Same.f (k + 1) a0 a1 a2 a3 a4 a5 a6 a7 a8 a9 a10 a11 a12 a13 a14 a15 a16 a17) := by
  intro a0 a1 a2 a3 a4 a5 a6 a7 a8 a9 a10 a11 a12 a13 a14 a15 a16 a17 k
  unfold crc_Same.f
  repeat' first
      | (with_reducible exact slices_Equal_uint64_uint64.mono _ _ _)
      | (with_reducible exact LeO.refl _)
      | (with_reducible exact LeO.none _)
      | (with_reducible refine LeO.ite ?_ ?_)
      | (with_reducible refine LeO.bind ?_ (fun _ => ?_))
      | exact slices_Equal_uint64_uint64.mono _ _ _
      | exact LeO.none _
      | refine LeO.ite ?_ ?_
      | refine LeO.bind ?_ (fun _ => ?_)
set_option maxHeartbeats 8000000 in
set_option maxRecDepth 100000 in
theorem crc_Same.calls (k : Nat) (a0_0 : Int) (a0_1 : Int) (a0_2 : Int) (a0_3 : Int) (a0_4 : Int) (A0_5 : Option Addr) (c0_5 : Nat) (l0_5 : List Int) (A0_6 : Option Addr) (c0_6 : Nat) (l0_6 : List Int) (A0_7 : Option Addr) (c0_7 : Nat) (l0_7 : List Int) (a0_8 : Bool) (a1_0 : Int) (a1_1 : Int) (a1_2 : Int) (a1_3 : Int) (a1_4 : Int) (A1_5 : Option Addr) (c1_5 : Nat) (l1_5 : List Int) (A1_6 : Option Addr) (c1_6 : Nat) (l1_6 : List Int) (A1_7 : Option Addr) (c1_7 : Nat) (l1_7 : List Int) (a1_8 : Bool) (r : Bool) (w : World) (hr0_5 : Kd.C (Kd.int .u64) w A0_5 l0_5.length l0_5) (hc0_5 : l0_5.length ≤ c0_5) (hr0_6 : Kd.C (Kd.int .u64) w A0_6 l0_6.length l0_6) (hc0_6 : l0_6.length ≤ c0_6) (hr0_7 : Kd.C (Kd.int .u64) w A0_7 l0_7.length l0_7) (hc0_7 : l0_7.length ≤ c0_7) (hr1_5 : Kd.C (Kd.int .u64) w A1_5 l1_5.length l1_5) (hc1_5 : l1_5.length ≤ c1_5) (hr1_6 : Kd.C (Kd.int .u64) w A1_6 l1_6.length l1_6) (hc1_6 : l1_6.length ≤ c1_6) (hr1_7 : Kd.C (Kd.int .u64) w A1_7 l1_7.length l1_7) (hc1_7 : l1_7.length ≤ c1_7) (h : crc_Same.f k a0_0 a0_1 a0_2 a0_3 a0_4 l0_5 l0_6 l0_7 a0_8 a1_0 a1_1 a1_2 a1_3 a1_4 l1_5 l1_6 l1_7 a1_8 = some r) :
    Calls Tryd.prog 12 #[.agg #[.int .i64 a0_0, .int .i64 a0_1, .int .i64 a0_2, .int .i64 a0_3, .int .i64 a0_4, .slice A0_5 l0_5.length c0_5, .slice A0_6 l0_6.length c0_6, .slice A0_7 l0_7.length c0_7, .bool a0_8], .agg #[.int .i64 a1_0, .int .i64 a1_1, .int .i64 a1_2, .int .i64 a1_3, .int .i64 a1_4, .slice A1_5 l1_5.length c1_5, .slice A1_6 l1_6.length c1_6, .slice A1_7 l1_7.length c1_7, .bool a1_8]] w fun e w' => e = .returned (.bool r) ∧ Below w.heap.size w w' := by
  have hu34 := Tryd.underlying34
  have hu23 := Tryd.underlying23
  have hu26 := Tryd.underlying26
  have HR0_5 := zm hr0_5
  have HC0_5 := zm hc0_5
  clear hr0_5 hc0_5
  have HR0_6 := zm hr0_6
  have HC0_6 := zm hc0_6
  clear hr0_6 hc0_6
  have HR0_7 := zm hr0_7
  have HC0_7 := zm hc0_7
  clear hr0_7 hc0_7
  have HR1_5 := zm hr1_5
  have HC1_5 := zm hc1_5
  clear hr1_5 hc1_5
  have HR1_6 := zm hr1_6
  have HC1_6 := zm hc1_6
  clear hr1_6 hc1_6
  have HR1_7 := zm hr1_7
  have HC1_7 := zm hc1_7
  clear hr1_7 hc1_7
  have HB := zm (Below.refl w.heap.size w)
  have H : ((slices_Equal_uint64_uint64.f k l0_5 l1_5).bind fun t142 => (if t142 = true then ((slices_Equal_uint64_uint64.f k l0_6 l1_6).bind fun t143 => (if t143 = true then ((slices_Equal_uint64_uint64.f k l0_7 l1_7).bind fun t144 => (if t144 = true then (if (a0_0 == a1_0 && (a0_1 == a1_1 && (a0_2 == a1_2))) = true then (if (a0_3 == a1_3 && (a0_4 == a1_4)) = true then (some (a0_8 == a1_8)) else (some false)) else (some false)) else (some false))) else (some false))) else (some false))) = some r := h
  clear h
  replace H := Option.bind_eq_some_iff.mp H
  obtain ⟨t142, A30, H⟩ := H
  replace H : (if t142 = true then ((slices_Equal_uint64_uint64.f k l0_6 l1_6).bind fun t143 => (if t143 = true then ((slices_Equal_uint64_uint64.f k l0_7 l1_7).bind fun t144 => (if t144 = true then (if (a0_0 == a1_0 && (a0_1 == a1_1 && (a0_2 == a1_2))) = true then (if (a0_3 == a1_3 && (a0_4 == a1_4)) = true then (some (a0_8 == a1_8)) else (some false)) else (some false)) else (some false))) else (some false))) else (some false)) = some r := H
  have A3 := zm A30
  clear A30
  by_cases c4 : t142 = true
  · subst c4
    have H1 : ((slices_Equal_uint64_uint64.f k l0_6 l1_6).bind fun t143 => (if t143 = true then ((slices_Equal_uint64_uint64.f k l0_7 l1_7).bind fun t144 => (if t144 = true then (if (a0_0 == a1_0 && (a0_1 == a1_1 && (a0_2 == a1_2))) = true then (if (a0_3 == a1_3 && (a0_4 == a1_4)) = true then (some (a0_8 == a1_8)) else (some false)) else (some false)) else (some false))) else (some false))) = some r := by rw [if_pos rfl] at H; exact H
    clear H
    have H := H1
    clear H1
    replace H := Option.bind_eq_some_iff.mp H
    obtain ⟨t143, A50, H⟩ := H
    replace H : (if t143 = true then ((slices_Equal_uint64_uint64.f k l0_7 l1_7).bind fun t144 => (if t144 = true then (if (a0_0 == a1_0 && (a0_1 == a1_1 && (a0_2 == a1_2))) = true then (if (a0_3 == a1_3 && (a0_4 == a1_4)) = true then (some (a0_8 == a1_8)) else (some false)) else (some false)) else (some false))) else (some false)) = some r := H
    have A5 := zm A50
    clear A50
    by_cases c6 : t143 = true
    · subst c6
      have H1 : ((slices_Equal_uint64_uint64.f k l0_7 l1_7).bind fun t144 => (if t144 = true then (if (a0_0 == a1_0 && (a0_1 == a1_1 && (a0_2 == a1_2))) = true then (if (a0_3 == a1_3 && (a0_4 == a1_4)) = true then (some (a0_8 == a1_8)) else (some false)) else (some false)) else (some false))) = some r := by rw [if_pos rfl] at H; exact H
      clear H
      have H := H1
      clear H1
      replace H := Option.bind_eq_some_iff.mp H
      obtain ⟨t144, A70, H⟩ := H
      replace H : (if t144 = true then (if (a0_0 == a1_0 && (a0_1 == a1_1 && (a0_2 == a1_2))) = true then (if (a0_3 == a1_3 && (a0_4 == a1_4)) = true then (some (a0_8 == a1_8)) else (some false)) else (some false)) else (some false)) = some r := H
      have A7 := zm A70
      clear A70
      by_cases c8 : t144 = true
      · subst c8
        have H1 : (if (a0_0 == a1_0 && (a0_1 == a1_1 && (a0_2 == a1_2))) = true then (if (a0_3 == a1_3 && (a0_4 == a1_4)) = true then (some (a0_8 == a1_8)) else (some false)) else (some false)) = some r := by rw [if_pos rfl] at H; exact H
        clear H
        have H := H1
        clear H1
        by_cases c9 : (a0_0 == a1_0 && (a0_1 == a1_1 && (a0_2 == a1_2))) = true
        · rw [if_pos c9] at H
          have c9b0 : (a0_0 == a1_0 && (a0_1 == a1_1 && (a0_2 == a1_2))) = true := c9
          (try (have c9b1 : decide (a0_0 = a1_0 && (a0_1 == a1_1 && (a0_2 == a1_2))) = true := by simpa using c9))
          (try (have c9b2 : (a0_0 == a1_0 && (a0_1 == a1_1 && (a0_2 == a1_2))) = true := by simpa using c9))
          clear c9
          by_cases c10 : (a0_3 == a1_3 && (a0_4 == a1_4)) = true
          · rw [if_pos c10] at H
            have c10b0 : (a0_3 == a1_3 && (a0_4 == a1_4)) = true := c10
            (try (have c10b1 : decide (a0_3 = a1_3 && (a0_4 == a1_4)) = true := by simpa using c10))
            (try (have c10b2 : (a0_3 == a1_3 && (a0_4 == a1_4)) = true := by simpa using c10))
            clear c10
            obtain rfl := Option.some.inj H
            go_enter Tryd.func12, Tryd.ntmps12
            go_wp2_with (first | ((with_reducible refine gate_dst (N := 2) rfl ?_); refine box_event ?hg (N := 2) ?hd (cs := #[.int .i64 a0_0, .int .i64 a0_1, .int .i64 a0_2, .int .i64 a0_3, .int .i64 a0_4, .slice A0_5 l0_5.length c0_5, .slice A0_6 l0_6.length c0_6, .slice A0_7 l0_7.length c0_7, .bool a0_8]) (t := 34) ?hr ?_; (case hd => rfl); (case hg => rfl); (case hr => first | (go_simp; done) | (go_simp; rfl)); intro gb140 hg w11 hbox hb; have n0_ := zm (below_step (by repeat (first | (with_reducible first | exact HB.out | apply zb1 | apply zb2 | apply zb3) | exact HB.out)) hb); have n1_ := zm (hbox); have n2_ := zm ((by rw [hg]; exact (below_size (by repeat (first | (with_reducible first | exact HB.out | apply zb1 | apply zb2 | apply zb3) | exact HB.out))) : w.heap.size ≤ gb140)); have n3_ := zm ((by rw [hg]; exact (below_size (by repeat (first | (with_reducible first | exact HB.out | apply zb1 | apply zb2 | apply zb3) | exact HB.out))) : w.heap.size ≤ gb140)); clear HB; have HB := n0_; have BK140 := n1_; have GW140 := n2_; have GE140 := n3_; clear n0_ n1_ n2_ n3_; clear hb hbox hg) | ((with_reducible refine gate_dst (N := 3) rfl ?_); refine box_event ?hg (N := 3) ?hd (cs := #[.int .i64 a1_0, .int .i64 a1_1, .int .i64 a1_2, .int .i64 a1_3, .int .i64 a1_4, .slice A1_5 l1_5.length c1_5, .slice A1_6 l1_6.length c1_6, .slice A1_7 l1_7.length c1_7, .bool a1_8]) (t := 34) ?hr ?_; (case hd => rfl); (case hg => rfl); (case hr => first | (go_simp; done) | (go_simp; rfl)); intro gb141 hg w12 hbox hb; have n0_ := zm (blk_below (g := gb140) (o := .cells #[.int .i64 a0_0, .int .i64 a0_1, .int .i64 a0_2, .int .i64 a0_3, .int .i64 a0_4, .slice A0_5 l0_5.length c0_5, .slice A0_6 l0_6.length c0_6, .slice A0_7 l0_7.length c0_7, .bool a0_8] 34 (0, 0)) (by (with_reducible repeat first | refine zk1 ?_ _ | refine zk2 ?_ | refine zk3 ?_ _); exact BK140.out) hb); have n1_ := zm (below_step (by repeat (first | (with_reducible first | exact HB.out | apply zb1 | apply zb2 | apply zb3 | refine zb4 ?_ GE140.out) | exact HB.out)) hb); have n2_ := zm (hbox); have n3_ := zm ((by rw [hg]; exact (below_size (by repeat (first | (with_reducible first | exact HB.out | apply zb1 | apply zb2 | apply zb3 | refine zb4 ?_ GE140.out) | exact HB.out))) : w.heap.size ≤ gb141)); have n4_ := zm ((by rw [hg]; exact (below_size (by repeat (first | (with_reducible first | exact HB.out | apply zb1 | apply zb2 | apply zb3 | refine zb4 ?_ GE140.out) | exact HB.out))) : w.heap.size ≤ gb141)); have n5_ := zm ((by rw [hg]; exact Nat.ne_of_lt (blk_lt (g := gb140) (by (with_reducible repeat first | refine zk1 ?_ _ | refine zk2 ?_ | refine zk3 ?_ _); exact BK140.out)) : gb140 ≠ gb141)); have n6_ := zm ((by rw [hg]; exact Nat.ne_of_gt (blk_lt (g := gb140) (by (with_reducible repeat first | refine zk1 ?_ _ | refine zk2 ?_ | refine zk3 ?_ _); exact BK140.out)) : gb141 ≠ gb140)); clear BK140 HB; have BK140 := n0_; have HB := n1_; have BK141 := n2_; have GW141 := n3_; have GE141 := n4_; have NB140_141 := n5_; have NB141_140 := n6_; clear n0_ n1_ n2_ n3_ n4_ n5_ n6_; clear hb hbox hg; have hnb13 := NB140_141.out; have hnc13 := NB141_140.out; have hcz14_0 : w12.cell? ⟨gb140, 0, none⟩ = some (.int .i64 a0_0) := (blk_cell BK140.out 0).trans rfl; have hcz14_1 : w12.cell? ⟨gb140, 1, none⟩ = some (.int .i64 a0_1) := (blk_cell BK140.out 1).trans rfl; have hcz14_2 : w12.cell? ⟨gb140, 2, none⟩ = some (.int .i64 a0_2) := (blk_cell BK140.out 2).trans rfl; have hcz14_3 : w12.cell? ⟨gb140, 3, none⟩ = some (.int .i64 a0_3) := (blk_cell BK140.out 3).trans rfl; have hcz14_4 : w12.cell? ⟨gb140, 4, none⟩ = some (.int .i64 a0_4) := (blk_cell BK140.out 4).trans rfl; have hcz14_5 : w12.cell? ⟨gb140, 5, none⟩ = some (.slice A0_5 l0_5.length c0_5) := (blk_cell BK140.out 5).trans rfl; have hcz14_6 : w12.cell? ⟨gb140, 6, none⟩ = some (.slice A0_6 l0_6.length c0_6) := (blk_cell BK140.out 6).trans rfl; have hcz14_7 : w12.cell? ⟨gb140, 7, none⟩ = some (.slice A0_7 l0_7.length c0_7) := (blk_cell BK140.out 7).trans rfl; have hcz14_8 : w12.cell? ⟨gb140, 8, none⟩ = some (.bool a0_8) := (blk_cell BK140.out 8).trans rfl; have hfz14_0 := blk_frozen BK140.out 0; have hfz14_1 := blk_frozen BK140.out 1; have hfz14_2 := blk_frozen BK140.out 2; have hfz14_3 := blk_frozen BK140.out 3; have hfz14_4 := blk_frozen BK140.out 4; have hfz14_5 := blk_frozen BK140.out 5; have hfz14_6 := blk_frozen BK140.out 6; have hfz14_7 := blk_frozen BK140.out 7; have hfz14_8 := blk_frozen BK140.out 8; have hcz15_0 : w12.cell? ⟨gb141, 0, none⟩ = some (.int .i64 a1_0) := (blk_cell BK141.out 0).trans rfl; have hcz15_1 : w12.cell? ⟨gb141, 1, none⟩ = some (.int .i64 a1_1) := (blk_cell BK141.out 1).trans rfl; have hcz15_2 : w12.cell? ⟨gb141, 2, none⟩ = some (.int .i64 a1_2) := (blk_cell BK141.out 2).trans rfl; have hcz15_3 : w12.cell? ⟨gb141, 3, none⟩ = some (.int .i64 a1_3) := (blk_cell BK141.out 3).trans rfl; have hcz15_4 : w12.cell? ⟨gb141, 4, none⟩ = some (.int .i64 a1_4) := (blk_cell BK141.out 4).trans rfl; have hcz15_5 : w12.cell? ⟨gb141, 5, none⟩ = some (.slice A1_5 l1_5.length c1_5) := (blk_cell BK141.out 5).trans rfl; have hcz15_6 : w12.cell? ⟨gb141, 6, none⟩ = some (.slice A1_6 l1_6.length c1_6) := (blk_cell BK141.out 6).trans rfl; have hcz15_7 : w12.cell? ⟨gb141, 7, none⟩ = some (.slice A1_7 l1_7.length c1_7) := (blk_cell BK141.out 7).trans rfl; have hcz15_8 : w12.cell? ⟨gb141, 8, none⟩ = some (.bool a1_8) := (blk_cell BK141.out 8).trans rfl; have hfz15_0 := blk_frozen BK141.out 0; have hfz15_1 := blk_frozen BK141.out 1; have hfz15_2 := blk_frozen BK141.out 2; have hfz15_3 := blk_frozen BK141.out 3; have hfz15_4 := blk_frozen BK141.out 4; have hfz15_5 := blk_frozen BK141.out 5; have hfz15_6 := blk_frozen BK141.out 6; have hfz15_7 := blk_frozen BK141.out 7; have hfz15_8 := blk_frozen BK141.out 8) | ((with_reducible refine gate_callee (f := 25) rfl ?_); refine goesL_ (some 12) rfl rfl Tryd.func25 (by kernel_rfl) rfl #[.slice A0_5 l0_5.length c0_5, .slice A1_5 l1_5.length c1_5] rfl (by (try simp only [List.map_toArray, List.map_cons, List.map_nil]); first | done | rfl | (simp only [List.length_drop, List.length_take]; rfl)) ?_; (with_reducible refine (slices_Equal_uint64_uint64.calls k _ _ l0_5 _ _ l1_5 true _ ?side1 ?side2 ?side3 ?side4 A3.out).mono ?_); (case side1 => repeat (first | exact (Kd.C_below HR0_5.out HB.out) | (with_reducible refine Kd.C_alloc ?_ _) | (with_reducible refine Kd.C_drewN ?_ _) | (with_reducible refine Kd.C_drew ?_))); (case side2 => exact HC0_5.out); (case side3 => repeat (first | exact (Kd.C_below HR1_5.out HB.out) | (with_reducible refine Kd.C_alloc ?_ _) | (with_reducible refine Kd.C_drewN ?_ _) | (with_reducible refine Kd.C_drew ?_))); (case side4 => exact HC1_5.out); rintro e w' ⟨rfl, ⟨nd, rfl⟩⟩; refine ⟨_, rfl, ?_⟩) | (go_at_call 25; (with_reducible refine (slices_Equal_uint64_uint64.calls k _ _ l0_6 _ _ l1_6 true _ ?side1 ?side2 ?side3 ?side4 A5.out).mono ?_); (case side1 => repeat (first | exact (Kd.C_below HR0_6.out (by repeat (first | (with_reducible first | exact HB.out | apply zb1 | apply zb2 | apply zb3 | refine zb4 ?_ GE140.out | refine zb4 ?_ GE141.out) | exact HB.out))) | (with_reducible refine Kd.C_alloc ?_ _) | (with_reducible refine Kd.C_drewN ?_ _) | (with_reducible refine Kd.C_drew ?_))); (case side2 => exact HC0_6.out); (case side3 => repeat (first | exact (Kd.C_below HR1_6.out (by repeat (first | (with_reducible first | exact HB.out | apply zb1 | apply zb2 | apply zb3 | refine zb4 ?_ GE140.out | refine zb4 ?_ GE141.out) | exact HB.out))) | (with_reducible refine Kd.C_alloc ?_ _) | (with_reducible refine Kd.C_drewN ?_ _) | (with_reducible refine Kd.C_drew ?_))); (case side4 => exact HC1_6.out); rintro e w' ⟨rfl, ⟨nd, rfl⟩⟩) | (go_at_call 25; (with_reducible refine (slices_Equal_uint64_uint64.calls k _ _ l0_7 _ _ l1_7 true _ ?side1 ?side2 ?side3 ?side4 A7.out).mono ?_); (case side1 => repeat (first | exact (Kd.C_below HR0_7.out (by repeat (first | (with_reducible first | exact HB.out | apply zb1 | apply zb2 | apply zb3 | refine zb4 ?_ GE140.out | refine zb4 ?_ GE141.out) | exact HB.out))) | (with_reducible refine Kd.C_alloc ?_ _) | (with_reducible refine Kd.C_drewN ?_ _) | (with_reducible refine Kd.C_drew ?_))); (case side2 => exact HC0_7.out); (case side3 => repeat (first | exact (Kd.C_below HR1_7.out (by repeat (first | (with_reducible first | exact HB.out | apply zb1 | apply zb2 | apply zb3 | refine zb4 ?_ GE140.out | refine zb4 ?_ GE141.out) | exact HB.out))) | (with_reducible refine Kd.C_alloc ?_ _) | (with_reducible refine Kd.C_drewN ?_ _) | (with_reducible refine Kd.C_drew ?_))); (case side4 => exact HC1_7.out); rintro e w' ⟨rfl, ⟨nd, rfl⟩⟩))
            go_ret
            exact ⟨by first | rfl | (simp [errW_none, errW_some] <;> rfl) | (simp [*, errW_none, errW_some] <;> rfl), by repeat (first | (with_reducible first | exact HB.out | apply zb1 | apply zb2 | apply zb3 | refine zb4 ?_ GE140.out | refine zb4 ?_ GE141.out) | exact HB.out)⟩
          · rw [if_neg c10] at H
            have c10b0 : (a0_3 == a1_3 && (a0_4 == a1_4)) = false := by simpa using c10
            (try (have c10b1 : decide (a0_3 = a1_3 && (a0_4 == a1_4)) = false := by simpa using c10))
            (try (have c10b2 : (a0_3 == a1_3 && (a0_4 == a1_4)) = false := by simpa using c10))
            (try (have c10b3 : ¬ (a0_3 = a1_3 && (a0_4 == a1_4)) := by simpa using c10))
            clear c10
            obtain rfl := Option.some.inj H
            go_enter Tryd.func12, Tryd.ntmps12
            go_wp2_with (first | ((with_reducible refine gate_dst (N := 2) rfl ?_); refine box_event ?hg (N := 2) ?hd (cs := #[.int .i64 a0_0, .int .i64 a0_1, .int .i64 a0_2, .int .i64 a0_3, .int .i64 a0_4, .slice A0_5 l0_5.length c0_5, .slice A0_6 l0_6.length c0_6, .slice A0_7 l0_7.length c0_7, .bool a0_8]) (t := 34) ?hr ?_; (case hd => rfl); (case hg => rfl); (case hr => first | (go_simp; done) | (go_simp; rfl)); intro gb140 hg w16 hbox hb; have n0_ := zm (below_step (by repeat (first | (with_reducible first | exact HB.out | apply zb1 | apply zb2 | apply zb3) | exact HB.out)) hb); have n1_ := zm (hbox); have n2_ := zm ((by rw [hg]; exact (below_size (by repeat (first | (with_reducible first | exact HB.out | apply zb1 | apply zb2 | apply zb3) | exact HB.out))) : w.heap.size ≤ gb140)); have n3_ := zm ((by rw [hg]; exact (below_size (by repeat (first | (with_reducible first | exact HB.out | apply zb1 | apply zb2 | apply zb3) | exact HB.out))) : w.heap.size ≤ gb140)); clear HB; have HB := n0_; have BK140 := n1_; have GW140 := n2_; have GE140 := n3_; clear n0_ n1_ n2_ n3_; clear hb hbox hg) | ((with_reducible refine gate_dst (N := 3) rfl ?_); refine box_event ?hg (N := 3) ?hd (cs := #[.int .i64 a1_0, .int .i64 a1_1, .int .i64 a1_2, .int .i64 a1_3, .int .i64 a1_4, .slice A1_5 l1_5.length c1_5, .slice A1_6 l1_6.length c1_6, .slice A1_7 l1_7.length c1_7, .bool a1_8]) (t := 34) ?hr ?_; (case hd => rfl); (case hg => rfl); (case hr => first | (go_simp; done) | (go_simp; rfl)); intro gb141 hg w17 hbox hb; have n0_ := zm (blk_below (g := gb140) (o := .cells #[.int .i64 a0_0, .int .i64 a0_1, .int .i64 a0_2, .int .i64 a0_3, .int .i64 a0_4, .slice A0_5 l0_5.length c0_5, .slice A0_6 l0_6.length c0_6, .slice A0_7 l0_7.length c0_7, .bool a0_8] 34 (0, 0)) (by (with_reducible repeat first | refine zk1 ?_ _ | refine zk2 ?_ | refine zk3 ?_ _); exact BK140.out) hb); have n1_ := zm (below_step (by repeat (first | (with_reducible first | exact HB.out | apply zb1 | apply zb2 | apply zb3 | refine zb4 ?_ GE140.out) | exact HB.out)) hb); have n2_ := zm (hbox); have n3_ := zm ((by rw [hg]; exact (below_size (by repeat (first | (with_reducible first | exact HB.out | apply zb1 | apply zb2 | apply zb3 | refine zb4 ?_ GE140.out) | exact HB.out))) : w.heap.size ≤ gb141)); have n4_ := zm ((by rw [hg]; exact (below_size (by repeat (first | (with_reducible first | exact HB.out | apply zb1 | apply zb2 | apply zb3 | refine zb4 ?_ GE140.out) | exact HB.out))) : w.heap.size ≤ gb141)); have n5_ := zm ((by rw [hg]; exact Nat.ne_of_lt (blk_lt (g := gb140) (by (with_reducible repeat first | refine zk1 ?_ _ | refine zk2 ?_ | refine zk3 ?_ _); exact BK140.out)) : gb140 ≠ gb141)); have n6_ := zm ((by rw [hg]; exact Nat.ne_of_gt (blk_lt (g := gb140) (by (with_reducible repeat first | refine zk1 ?_ _ | refine zk2 ?_ | refine zk3 ?_ _); exact BK140.out)) : gb141 ≠ gb140)); clear BK140 HB; have BK140 := n0_; have HB := n1_; have BK141 := n2_; have GW141 := n3_; have GE141 := n4_; have NB140_141 := n5_; have NB141_140 := n6_; clear n0_ n1_ n2_ n3_ n4_ n5_ n6_; clear hb hbox hg; have hnb18 := NB140_141.out; have hnc18 := NB141_140.out; have hcz19_0 : w17.cell? ⟨gb140, 0, none⟩ = some (.int .i64 a0_0) := (blk_cell BK140.out 0).trans rfl; have hcz19_1 : w17.cell? ⟨gb140, 1, none⟩ = some (.int .i64 a0_1) := (blk_cell BK140.out 1).trans rfl; have hcz19_2 : w17.cell? ⟨gb140, 2, none⟩ = some (.int .i64 a0_2) := (blk_cell BK140.out 2).trans rfl; have hcz19_3 : w17.cell? ⟨gb140, 3, none⟩ = some (.int .i64 a0_3) := (blk_cell BK140.out 3).trans rfl; have hcz19_4 : w17.cell? ⟨gb140, 4, none⟩ = some (.int .i64 a0_4) := (blk_cell BK140.out 4).trans rfl; have hcz19_5 : w17.cell? ⟨gb140, 5, none⟩ = some (.slice A0_5 l0_5.length c0_5) := (blk_cell BK140.out 5).trans rfl; have hcz19_6 : w17.cell? ⟨gb140, 6, none⟩ = some (.slice A0_6 l0_6.length c0_6) := (blk_cell BK140.out 6).trans rfl; have hcz19_7 : w17.cell? ⟨gb140, 7, none⟩ = some (.slice A0_7 l0_7.length c0_7) := (blk_cell BK140.out 7).trans rfl; have hcz19_8 : w17.cell? ⟨gb140, 8, none⟩ = some (.bool a0_8) := (blk_cell BK140.out 8).trans rfl; have hfz19_0 := blk_frozen BK140.out 0; have hfz19_1 := blk_frozen BK140.out 1; have hfz19_2 := blk_frozen BK140.out 2; have hfz19_3 := blk_frozen BK140.out 3; have hfz19_4 := blk_frozen BK140.out 4; have hfz19_5 := blk_frozen BK140.out 5; have hfz19_6 := blk_frozen BK140.out 6; have hfz19_7 := blk_frozen BK140.out 7; have hfz19_8 := blk_frozen BK140.out 8; have hcz20_0 : w17.cell? ⟨gb141, 0, none⟩ = some (.int .i64 a1_0) := (blk_cell BK141.out 0).trans rfl; have hcz20_1 : w17.cell? ⟨gb141, 1, none⟩ = some (.int .i64 a1_1) := (blk_cell BK141.out 1).trans rfl; have hcz20_2 : w17.cell? ⟨gb141, 2, none⟩ = some (.int .i64 a1_2) := (blk_cell BK141.out 2).trans rfl; have hcz20_3 : w17.cell? ⟨gb141, 3, none⟩ = some (.int .i64 a1_3) := (blk_cell BK141.out 3).trans rfl; have hcz20_4 : w17.cell? ⟨gb141, 4, none⟩ = some (.int .i64 a1_4) := (blk_cell BK141.out 4).trans rfl; have hcz20_5 : w17.cell? ⟨gb141, 5, none⟩ = some (.slice A1_5 l1_5.length c1_5) := (blk_cell BK141.out 5).trans rfl; have hcz20_6 : w17.cell? ⟨gb141, 6, none⟩ = some (.slice A1_6 l1_6.length c1_6) := (blk_cell BK141.out 6).trans rfl; have hcz20_7 : w17.cell? ⟨gb141, 7, none⟩ = some (.slice A1_7 l1_7.length c1_7) := (blk_cell BK141.out 7).trans rfl; have hcz20_8 : w17.cell? ⟨gb141, 8, none⟩ = some (.bool a1_8) := (blk_cell BK141.out 8).trans rfl; have hfz20_0 := blk_frozen BK141.out 0; have hfz20_1 := blk_frozen BK141.out 1; have hfz20_2 := blk_frozen BK141.out 2; have hfz20_3 := blk_frozen BK141.out 3; have hfz20_4 := blk_frozen BK141.out 4; have hfz20_5 := blk_frozen BK141.out 5; have hfz20_6 := blk_frozen BK141.out 6; have hfz20_7 := blk_frozen BK141.out 7; have hfz20_8 := blk_frozen BK141.out 8) | ((with_reducible refine gate_callee (f := 25) rfl ?_); refine goesL_ (some 12) rfl rfl Tryd.func25 (by kernel_rfl) rfl #[.slice A0_5 l0_5.length c0_5, .slice A1_5 l1_5.length c1_5] rfl (by (try simp only [List.map_toArray, List.map_cons, List.map_nil]); first | done | rfl | (simp only [List.length_drop, List.length_take]; rfl)) ?_; (with_reducible refine (slices_Equal_uint64_uint64.calls k _ _ l0_5 _ _ l1_5 true _ ?side1 ?side2 ?side3 ?side4 A3.out).mono ?_); (case side1 => repeat (first | exact (Kd.C_below HR0_5.out HB.out) | (with_reducible refine Kd.C_alloc ?_ _) | (with_reducible refine Kd.C_drewN ?_ _) | (with_reducible refine Kd.C_drew ?_))); (case side2 => exact HC0_5.out); (case side3 => repeat (first | exact (Kd.C_below HR1_5.out HB.out) | (with_reducible refine Kd.C_alloc ?_ _) | (with_reducible refine Kd.C_drewN ?_ _) | (with_reducible refine Kd.C_drew ?_))); (case side4 => exact HC1_5.out); rintro e w' ⟨rfl, ⟨nd, rfl⟩⟩; refine ⟨_, rfl, ?_⟩) | (go_at_call 25; (with_reducible refine (slices_Equal_uint64_uint64.calls k _ _ l0_6 _ _ l1_6 true _ ?side1 ?side2 ?side3 ?side4 A5.out).mono ?_); (case side1 => repeat (first | exact (Kd.C_below HR0_6.out (by repeat (first | (with_reducible first | exact HB.out | apply zb1 | apply zb2 | apply zb3 | refine zb4 ?_ GE140.out | refine zb4 ?_ GE141.out) | exact HB.out))) | (with_reducible refine Kd.C_alloc ?_ _) | (with_reducible refine Kd.C_drewN ?_ _) | (with_reducible refine Kd.C_drew ?_))); (case side2 => exact HC0_6.out); (case side3 => repeat (first | exact (Kd.C_below HR1_6.out (by repeat (first | (with_reducible first | exact HB.out | apply zb1 | apply zb2 | apply zb3 | refine zb4 ?_ GE140.out | refine zb4 ?_ GE141.out) | exact HB.out))) | (with_reducible refine Kd.C_alloc ?_ _) | (with_reducible refine Kd.C_drewN ?_ _) | (with_reducible refine Kd.C_drew ?_))); (case side4 => exact HC1_6.out); rintro e w' ⟨rfl, ⟨nd, rfl⟩⟩) | (go_at_call 25; (with_reducible refine (slices_Equal_uint64_uint64.calls k _ _ l0_7 _ _ l1_7 true _ ?side1 ?side2 ?side3 ?side4 A7.out).mono ?_); (case side1 => repeat (first | exact (Kd.C_below HR0_7.out (by repeat (first | (with_reducible first | exact HB.out | apply zb1 | apply zb2 | apply zb3 | refine zb4 ?_ GE140.out | refine zb4 ?_ GE141.out) | exact HB.out))) | (with_reducible refine Kd.C_alloc ?_ _) | (with_reducible refine Kd.C_drewN ?_ _) | (with_reducible refine Kd.C_drew ?_))); (case side2 => exact HC0_7.out); (case side3 => repeat (first | exact (Kd.C_below HR1_7.out (by repeat (first | (with_reducible first | exact HB.out | apply zb1 | apply zb2 | apply zb3 | refine zb4 ?_ GE140.out | refine zb4 ?_ GE141.out) | exact HB.out))) | (with_reducible refine Kd.C_alloc ?_ _) | (with_reducible refine Kd.C_drewN ?_ _) | (with_reducible refine Kd.C_drew ?_))); (case side4 => exact HC1_7.out); rintro e w' ⟨rfl, ⟨nd, rfl⟩⟩))
            go_ret
            exact ⟨by first | rfl | (simp [errW_none, errW_some] <;> rfl) | (simp [*, errW_none, errW_some] <;> rfl), by repeat (first | (with_reducible first | exact HB.out | apply zb1 | apply zb2 | apply zb3 | refine zb4 ?_ GE140.out | refine zb4 ?_ GE141.out) | exact HB.out)⟩
        · rw [if_neg c9] at H
          have c9b0 : (a0_0 == a1_0 && (a0_1 == a1_1 && (a0_2 == a1_2))) = false := by simpa using c9
          (try (have c9b1 : decide (a0_0 = a1_0 && (a0_1 == a1_1 && (a0_2 == a1_2))) = false := by simpa using c9))
          (try (have c9b2 : (a0_0 == a1_0 && (a0_1 == a1_1 && (a0_2 == a1_2))) = false := by simpa using c9))
          (try (have c9b3 : ¬ (a0_0 = a1_0 && (a0_1 == a1_1 && (a0_2 == a1_2))) := by simpa using c9))
          clear c9
          obtain rfl := Option.some.inj H
          go_enter Tryd.func12, Tryd.ntmps12
          go_wp2_with (first | ((with_reducible refine gate_dst (N := 2) rfl ?_); refine box_event ?hg (N := 2) ?hd (cs := #[.int .i64 a0_0, .int .i64 a0_1, .int .i64 a0_2, .int .i64 a0_3, .int .i64 a0_4, .slice A0_5 l0_5.length c0_5, .slice A0_6 l0_6.length c0_6, .slice A0_7 l0_7.length c0_7, .bool a0_8]) (t := 34) ?hr ?_; (case hd => rfl); (case hg => rfl); (case hr => first | (go_simp; done) | (go_simp; rfl)); intro gb140 hg w21 hbox hb; have n0_ := zm (below_step (by repeat (first | (with_reducible first | exact HB.out | apply zb1 | apply zb2 | apply zb3) | exact HB.out)) hb); have n1_ := zm (hbox); have n2_ := zm ((by rw [hg]; exact (below_size (by repeat (first | (with_reducible first | exact HB.out | apply zb1 | apply zb2 | apply zb3) | exact HB.out))) : w.heap.size ≤ gb140)); have n3_ := zm ((by rw [hg]; exact (below_size (by repeat (first | (with_reducible first | exact HB.out | apply zb1 | apply zb2 | apply zb3) | exact HB.out))) : w.heap.size ≤ gb140)); clear HB; have HB := n0_; have BK140 := n1_; have GW140 := n2_; have GE140 := n3_; clear n0_ n1_ n2_ n3_; clear hb hbox hg) | ((with_reducible refine gate_dst (N := 3) rfl ?_); refine box_event ?hg (N := 3) ?hd (cs := #[.int .i64 a1_0, .int .i64 a1_1, .int .i64 a1_2, .int .i64 a1_3, .int .i64 a1_4, .slice A1_5 l1_5.length c1_5, .slice A1_6 l1_6.length c1_6, .slice A1_7 l1_7.length c1_7, .bool a1_8]) (t := 34) ?hr ?_; (case hd => rfl); (case hg => rfl); (case hr => first | (go_simp; done) | (go_simp; rfl)); intro gb141 hg w22 hbox hb; have n0_ := zm (blk_below (g := gb140) (o := .cells #[.int .i64 a0_0, .int .i64 a0_1, .int .i64 a0_2, .int .i64 a0_3, .int .i64 a0_4, .slice A0_5 l0_5.length c0_5, .slice A0_6 l0_6.length c0_6, .slice A0_7 l0_7.length c0_7, .bool a0_8] 34 (0, 0)) (by (with_reducible repeat first | refine zk1 ?_ _ | refine zk2 ?_ | refine zk3 ?_ _); exact BK140.out) hb); have n1_ := zm (below_step (by repeat (first | (with_reducible first | exact HB.out | apply zb1 | apply zb2 | apply zb3 | refine zb4 ?_ GE140.out) | exact HB.out)) hb); have n2_ := zm (hbox); have n3_ := zm ((by rw [hg]; exact (below_size (by repeat (first | (with_reducible first | exact HB.out | apply zb1 | apply zb2 | apply zb3 | refine zb4 ?_ GE140.out) | exact HB.out))) : w.heap.size ≤ gb141)); have n4_ := zm ((by rw [hg]; exact (below_size (by repeat (first | (with_reducible first | exact HB.out | apply zb1 | apply zb2 | apply zb3 | refine zb4 ?_ GE140.out) | exact HB.out))) : w.heap.size ≤ gb141)); have n5_ := zm ((by rw [hg]; exact Nat.ne_of_lt (blk_lt (g := gb140) (by (with_reducible repeat first | refine zk1 ?_ _ | refine zk2 ?_ | refine zk3 ?_ _); exact BK140.out)) : gb140 ≠ gb141)); have n6_ := zm ((by rw [hg]; exact Nat.ne_of_gt (blk_lt (g := gb140) (by (with_reducible repeat first | refine zk1 ?_ _ | refine zk2 ?_ | refine zk3 ?_ _); exact BK140.out)) : gb141 ≠ gb140)); clear BK140 HB; have BK140 := n0_; have HB := n1_; have BK141 := n2_; have GW141 := n3_; have GE141 := n4_; have NB140_141 := n5_; have NB141_140 := n6_; clear n0_ n1_ n2_ n3_ n4_ n5_ n6_; clear hb hbox hg; have hnb23 := NB140_141.out; have hnc23 := NB141_140.out; have hcz24_0 : w22.cell? ⟨gb140, 0, none⟩ = some (.int .i64 a0_0) := (blk_cell BK140.out 0).trans rfl; have hcz24_1 : w22.cell? ⟨gb140, 1, none⟩ = some (.int .i64 a0_1) := (blk_cell BK140.out 1).trans rfl; have hcz24_2 : w22.cell? ⟨gb140, 2, none⟩ = some (.int .i64 a0_2) := (blk_cell BK140.out 2).trans rfl; have hcz24_3 : w22.cell? ⟨gb140, 3, none⟩ = some (.int .i64 a0_3) := (blk_cell BK140.out 3).trans rfl; have hcz24_4 : w22.cell? ⟨gb140, 4, none⟩ = some (.int .i64 a0_4) := (blk_cell BK140.out 4).trans rfl; have hcz24_5 : w22.cell? ⟨gb140, 5, none⟩ = some (.slice A0_5 l0_5.length c0_5) := (blk_cell BK140.out 5).trans rfl; have hcz24_6 : w22.cell? ⟨gb140, 6, none⟩ = some (.slice A0_6 l0_6.length c0_6) := (blk_cell BK140.out 6).trans rfl; have hcz24_7 : w22.cell? ⟨gb140, 7, none⟩ = some (.slice A0_7 l0_7.length c0_7) := (blk_cell BK140.out 7).trans rfl; have hcz24_8 : w22.cell? ⟨gb140, 8, none⟩ = some (.bool a0_8) := (blk_cell BK140.out 8).trans rfl; have hfz24_0 := blk_frozen BK140.out 0; have hfz24_1 := blk_frozen BK140.out 1; have hfz24_2 := blk_frozen BK140.out 2; have hfz24_3 := blk_frozen BK140.out 3; have hfz24_4 := blk_frozen BK140.out 4; have hfz24_5 := blk_frozen BK140.out 5; have hfz24_6 := blk_frozen BK140.out 6; have hfz24_7 := blk_frozen BK140.out 7; have hfz24_8 := blk_frozen BK140.out 8; have hcz25_0 : w22.cell? ⟨gb141, 0, none⟩ = some (.int .i64 a1_0) := (blk_cell BK141.out 0).trans rfl; have hcz25_1 : w22.cell? ⟨gb141, 1, none⟩ = some (.int .i64 a1_1) := (blk_cell BK141.out 1).trans rfl; have hcz25_2 : w22.cell? ⟨gb141, 2, none⟩ = some (.int .i64 a1_2) := (blk_cell BK141.out 2).trans rfl; have hcz25_3 : w22.cell? ⟨gb141, 3, none⟩ = some (.int .i64 a1_3) := (blk_cell BK141.out 3).trans rfl; have hcz25_4 : w22.cell? ⟨gb141, 4, none⟩ = some (.int .i64 a1_4) := (blk_cell BK141.out 4).trans rfl; have hcz25_5 : w22.cell? ⟨gb141, 5, none⟩ = some (.slice A1_5 l1_5.length c1_5) := (blk_cell BK141.out 5).trans rfl; have hcz25_6 : w22.cell? ⟨gb141, 6, none⟩ = some (.slice A1_6 l1_6.length c1_6) := (blk_cell BK141.out 6).trans rfl; have hcz25_7 : w22.cell? ⟨gb141, 7, none⟩ = some (.slice A1_7 l1_7.length c1_7) := (blk_cell BK141.out 7).trans rfl; have hcz25_8 : w22.cell? ⟨gb141, 8, none⟩ = some (.bool a1_8) := (blk_cell BK141.out 8).trans rfl; have hfz25_0 := blk_frozen BK141.out 0; have hfz25_1 := blk_frozen BK141.out 1; have hfz25_2 := blk_frozen BK141.out 2; have hfz25_3 := blk_frozen BK141.out 3; have hfz25_4 := blk_frozen BK141.out 4; have hfz25_5 := blk_frozen BK141.out 5; have hfz25_6 := blk_frozen BK141.out 6; have hfz25_7 := blk_frozen BK141.out 7; have hfz25_8 := blk_frozen BK141.out 8) | ((with_reducible refine gate_callee (f := 25) rfl ?_); refine goesL_ (some 12) rfl rfl Tryd.func25 (by kernel_rfl) rfl #[.slice A0_5 l0_5.length c0_5, .slice A1_5 l1_5.length c1_5] rfl (by (try simp only [List.map_toArray, List.map_cons, List.map_nil]); first | done | rfl | (simp only [List.length_drop, List.length_take]; rfl)) ?_; (with_reducible refine (slices_Equal_uint64_uint64.calls k _ _ l0_5 _ _ l1_5 true _ ?side1 ?side2 ?side3 ?side4 A3.out).mono ?_); (case side1 => repeat (first | exact (Kd.C_below HR0_5.out HB.out) | (with_reducible refine Kd.C_alloc ?_ _) | (with_reducible refine Kd.C_drewN ?_ _) | (with_reducible refine Kd.C_drew ?_))); (case side2 => exact HC0_5.out); (case side3 => repeat (first | exact (Kd.C_below HR1_5.out HB.out) | (with_reducible refine Kd.C_alloc ?_ _) | (with_reducible refine Kd.C_drewN ?_ _) | (with_reducible refine Kd.C_drew ?_))); (case side4 => exact HC1_5.out); rintro e w' ⟨rfl, ⟨nd, rfl⟩⟩; refine ⟨_, rfl, ?_⟩) | (go_at_call 25; (with_reducible refine (slices_Equal_uint64_uint64.calls k _ _ l0_6 _ _ l1_6 true _ ?side1 ?side2 ?side3 ?side4 A5.out).mono ?_); (case side1 => repeat (first | exact (Kd.C_below HR0_6.out (by repeat (first | (with_reducible first | exact HB.out | apply zb1 | apply zb2 | apply zb3 | refine zb4 ?_ GE140.out | refine zb4 ?_ GE141.out) | exact HB.out))) | (with_reducible refine Kd.C_alloc ?_ _) | (with_reducible refine Kd.C_drewN ?_ _) | (with_reducible refine Kd.C_drew ?_))); (case side2 => exact HC0_6.out); (case side3 => repeat (first | exact (Kd.C_below HR1_6.out (by repeat (first | (with_reducible first | exact HB.out | apply zb1 | apply zb2 | apply zb3 | refine zb4 ?_ GE140.out | refine zb4 ?_ GE141.out) | exact HB.out))) | (with_reducible refine Kd.C_alloc ?_ _) | (with_reducible refine Kd.C_drewN ?_ _) | (with_reducible refine Kd.C_drew ?_))); (case side4 => exact HC1_6.out); rintro e w' ⟨rfl, ⟨nd, rfl⟩⟩) | (go_at_call 25; (with_reducible refine (slices_Equal_uint64_uint64.calls k _ _ l0_7 _ _ l1_7 true _ ?side1 ?side2 ?side3 ?side4 A7.out).mono ?_); (case side1 => repeat (first | exact (Kd.C_below HR0_7.out (by repeat (first | (with_reducible first | exact HB.out | apply zb1 | apply zb2 | apply zb3 | refine zb4 ?_ GE140.out | refine zb4 ?_ GE141.out) | exact HB.out))) | (with_reducible refine Kd.C_alloc ?_ _) | (with_reducible refine Kd.C_drewN ?_ _) | (with_reducible refine Kd.C_drew ?_))); (case side2 => exact HC0_7.out); (case side3 => repeat (first | exact (Kd.C_below HR1_7.out (by repeat (first | (with_reducible first | exact HB.out | apply zb1 | apply zb2 | apply zb3 | refine zb4 ?_ GE140.out | refine zb4 ?_ GE141.out) | exact HB.out))) | (with_reducible refine Kd.C_alloc ?_ _) | (with_reducible refine Kd.C_drewN ?_ _) | (with_reducible refine Kd.C_drew ?_))); (case side4 => exact HC1_7.out); rintro e w' ⟨rfl, ⟨nd, rfl⟩⟩))
          go_ret
          exact ⟨by first | rfl | (simp [errW_none, errW_some] <;> rfl) | (simp [*, errW_none, errW_some] <;> rfl), by repeat (first | (with_reducible first | exact HB.out | apply zb1 | apply zb2 | apply zb3 | refine zb4 ?_ GE140.out | refine zb4 ?_ GE141.out) | exact HB.out)⟩
      · replace c8 := Bool.eq_false_iff.mpr c8
        subst c8
        have H1 : (some false) = some r := by rw [if_neg (show ¬ (false = true) by decide)] at H; exact H
        clear H
        have H := H1
        clear H1
        obtain rfl := Option.some.inj H
        go_enter Tryd.func12, Tryd.ntmps12
        go_wp2_with (first | ((with_reducible refine gate_dst (N := 2) rfl ?_); refine box_event ?hg (N := 2) ?hd (cs := #[.int .i64 a0_0, .int .i64 a0_1, .int .i64 a0_2, .int .i64 a0_3, .int .i64 a0_4, .slice A0_5 l0_5.length c0_5, .slice A0_6 l0_6.length c0_6, .slice A0_7 l0_7.length c0_7, .bool a0_8]) (t := 34) ?hr ?_; (case hd => rfl); (case hg => rfl); (case hr => first | (go_simp; done) | (go_simp; rfl)); intro gb140 hg w26 hbox hb; have n0_ := zm (below_step (by repeat (first | (with_reducible first | exact HB.out | apply zb1 | apply zb2 | apply zb3) | exact HB.out)) hb); have n1_ := zm (hbox); have n2_ := zm ((by rw [hg]; exact (below_size (by repeat (first | (with_reducible first | exact HB.out | apply zb1 | apply zb2 | apply zb3) | exact HB.out))) : w.heap.size ≤ gb140)); have n3_ := zm ((by rw [hg]; exact (below_size (by repeat (first | (with_reducible first | exact HB.out | apply zb1 | apply zb2 | apply zb3) | exact HB.out))) : w.heap.size ≤ gb140)); clear HB; have HB := n0_; have BK140 := n1_; have GW140 := n2_; have GE140 := n3_; clear n0_ n1_ n2_ n3_; clear hb hbox hg) | ((with_reducible refine gate_dst (N := 3) rfl ?_); refine box_event ?hg (N := 3) ?hd (cs := #[.int .i64 a1_0, .int .i64 a1_1, .int .i64 a1_2, .int .i64 a1_3, .int .i64 a1_4, .slice A1_5 l1_5.length c1_5, .slice A1_6 l1_6.length c1_6, .slice A1_7 l1_7.length c1_7, .bool a1_8]) (t := 34) ?hr ?_; (case hd => rfl); (case hg => rfl); (case hr => first | (go_simp; done) | (go_simp; rfl)); intro gb141 hg w27 hbox hb; have n0_ := zm (blk_below (g := gb140) (o := .cells #[.int .i64 a0_0, .int .i64 a0_1, .int .i64 a0_2, .int .i64 a0_3, .int .i64 a0_4, .slice A0_5 l0_5.length c0_5, .slice A0_6 l0_6.length c0_6, .slice A0_7 l0_7.length c0_7, .bool a0_8] 34 (0, 0)) (by (with_reducible repeat first | refine zk1 ?_ _ | refine zk2 ?_ | refine zk3 ?_ _); exact BK140.out) hb); have n1_ := zm (below_step (by repeat (first | (with_reducible first | exact HB.out | apply zb1 | apply zb2 | apply zb3 | refine zb4 ?_ GE140.out) | exact HB.out)) hb); have n2_ := zm (hbox); have n3_ := zm ((by rw [hg]; exact (below_size (by repeat (first | (with_reducible first | exact HB.out | apply zb1 | apply zb2 | apply zb3 | refine zb4 ?_ GE140.out) | exact HB.out))) : w.heap.size ≤ gb141)); have n4_ := zm ((by rw [hg]; exact (below_size (by repeat (first | (with_reducible first | exact HB.out | apply zb1 | apply zb2 | apply zb3 | refine zb4 ?_ GE140.out) | exact HB.out))) : w.heap.size ≤ gb141)); have n5_ := zm ((by rw [hg]; exact Nat.ne_of_lt (blk_lt (g := gb140) (by (with_reducible repeat first | refine zk1 ?_ _ | refine zk2 ?_ | refine zk3 ?_ _); exact BK140.out)) : gb140 ≠ gb141)); have n6_ := zm ((by rw [hg]; exact Nat.ne_of_gt (blk_lt (g := gb140) (by (with_reducible repeat first | refine zk1 ?_ _ | refine zk2 ?_ | refine zk3 ?_ _); exact BK140.out)) : gb141 ≠ gb140)); clear BK140 HB; have BK140 := n0_; have HB := n1_; have BK141 := n2_; have GW141 := n3_; have GE141 := n4_; have NB140_141 := n5_; have NB141_140 := n6_; clear n0_ n1_ n2_ n3_ n4_ n5_ n6_; clear hb hbox hg; have hnb28 := NB140_141.out; have hnc28 := NB141_140.out; have hcz29_0 : w27.cell? ⟨gb140, 0, none⟩ = some (.int .i64 a0_0) := (blk_cell BK140.out 0).trans rfl; have hcz29_1 : w27.cell? ⟨gb140, 1, none⟩ = some (.int .i64 a0_1) := (blk_cell BK140.out 1).trans rfl; have hcz29_2 : w27.cell? ⟨gb140, 2, none⟩ = some (.int .i64 a0_2) := (blk_cell BK140.out 2).trans rfl; have hcz29_3 : w27.cell? ⟨gb140, 3, none⟩ = some (.int .i64 a0_3) := (blk_cell BK140.out 3).trans rfl; have hcz29_4 : w27.cell? ⟨gb140, 4, none⟩ = some (.int .i64 a0_4) := (blk_cell BK140.out 4).trans rfl; have hcz29_5 : w27.cell? ⟨gb140, 5, none⟩ = some (.slice A0_5 l0_5.length c0_5) := (blk_cell BK140.out 5).trans rfl; have hcz29_6 : w27.cell? ⟨gb140, 6, none⟩ = some (.slice A0_6 l0_6.length c0_6) := (blk_cell BK140.out 6).trans rfl; have hcz29_7 : w27.cell? ⟨gb140, 7, none⟩ = some (.slice A0_7 l0_7.length c0_7) := (blk_cell BK140.out 7).trans rfl; have hcz29_8 : w27.cell? ⟨gb140, 8, none⟩ = some (.bool a0_8) := (blk_cell BK140.out 8).trans rfl; have hfz29_0 := blk_frozen BK140.out 0; have hfz29_1 := blk_frozen BK140.out 1; have hfz29_2 := blk_frozen BK140.out 2; have hfz29_3 := blk_frozen BK140.out 3; have hfz29_4 := blk_frozen BK140.out 4; have hfz29_5 := blk_frozen BK140.out 5; have hfz29_6 := blk_frozen BK140.out 6; have hfz29_7 := blk_frozen BK140.out 7; have hfz29_8 := blk_frozen BK140.out 8; have hcz30_0 : w27.cell? ⟨gb141, 0, none⟩ = some (.int .i64 a1_0) := (blk_cell BK141.out 0).trans rfl; have hcz30_1 : w27.cell? ⟨gb141, 1, none⟩ = some (.int .i64 a1_1) := (blk_cell BK141.out 1).trans rfl; have hcz30_2 : w27.cell? ⟨gb141, 2, none⟩ = some (.int .i64 a1_2) := (blk_cell BK141.out 2).trans rfl; have hcz30_3 : w27.cell? ⟨gb141, 3, none⟩ = some (.int .i64 a1_3) := (blk_cell BK141.out 3).trans rfl; have hcz30_4 : w27.cell? ⟨gb141, 4, none⟩ = some (.int .i64 a1_4) := (blk_cell BK141.out 4).trans rfl; have hcz30_5 : w27.cell? ⟨gb141, 5, none⟩ = some (.slice A1_5 l1_5.length c1_5) := (blk_cell BK141.out 5).trans rfl; have hcz30_6 : w27.cell? ⟨gb141, 6, none⟩ = some (.slice A1_6 l1_6.length c1_6) := (blk_cell BK141.out 6).trans rfl; have hcz30_7 : w27.cell? ⟨gb141, 7, none⟩ = some (.slice A1_7 l1_7.length c1_7) := (blk_cell BK141.out 7).trans rfl; have hcz30_8 : w27.cell? ⟨gb141, 8, none⟩ = some (.bool a1_8) := (blk_cell BK141.out 8).trans rfl; have hfz30_0 := blk_frozen BK141.out 0; have hfz30_1 := blk_frozen BK141.out 1; have hfz30_2 := blk_frozen BK141.out 2; have hfz30_3 := blk_frozen BK141.out 3; have hfz30_4 := blk_frozen BK141.out 4; have hfz30_5 := blk_frozen BK141.out 5; have hfz30_6 := blk_frozen BK141.out 6; have hfz30_7 := blk_frozen BK141.out 7; have hfz30_8 := blk_frozen BK141.out 8) | ((with_reducible refine gate_callee (f := 25) rfl ?_); refine goesL_ (some 12) rfl rfl Tryd.func25 (by kernel_rfl) rfl #[.slice A0_5 l0_5.length c0_5, .slice A1_5 l1_5.length c1_5] rfl (by (try simp only [List.map_toArray, List.map_cons, List.map_nil]); first | done | rfl | (simp only [List.length_drop, List.length_take]; rfl)) ?_; (with_reducible refine (slices_Equal_uint64_uint64.calls k _ _ l0_5 _ _ l1_5 true _ ?side1 ?side2 ?side3 ?side4 A3.out).mono ?_); (case side1 => repeat (first | exact (Kd.C_below HR0_5.out HB.out) | (with_reducible refine Kd.C_alloc ?_ _) | (with_reducible refine Kd.C_drewN ?_ _) | (with_reducible refine Kd.C_drew ?_))); (case side2 => exact HC0_5.out); (case side3 => repeat (first | exact (Kd.C_below HR1_5.out HB.out) | (with_reducible refine Kd.C_alloc ?_ _) | (with_reducible refine Kd.C_drewN ?_ _) | (with_reducible refine Kd.C_drew ?_))); (case side4 => exact HC1_5.out); rintro e w' ⟨rfl, ⟨nd, rfl⟩⟩; refine ⟨_, rfl, ?_⟩) | (go_at_call 25; (with_reducible refine (slices_Equal_uint64_uint64.calls k _ _ l0_6 _ _ l1_6 true _ ?side1 ?side2 ?side3 ?side4 A5.out).mono ?_); (case side1 => repeat (first | exact (Kd.C_below HR0_6.out (by repeat (first | (with_reducible first | exact HB.out | apply zb1 | apply zb2 | apply zb3 | refine zb4 ?_ GE140.out | refine zb4 ?_ GE141.out) | exact HB.out))) | (with_reducible refine Kd.C_alloc ?_ _) | (with_reducible refine Kd.C_drewN ?_ _) | (with_reducible refine Kd.C_drew ?_))); (case side2 => exact HC0_6.out); (case side3 => repeat (first | exact (Kd.C_below HR1_6.out (by repeat (first | (with_reducible first | exact HB.out | apply zb1 | apply zb2 | apply zb3 | refine zb4 ?_ GE140.out | refine zb4 ?_ GE141.out) | exact HB.out))) | (with_reducible refine Kd.C_alloc ?_ _) | (with_reducible refine Kd.C_drewN ?_ _) | (with_reducible refine Kd.C_drew ?_))); (case side4 => exact HC1_6.out); rintro e w' ⟨rfl, ⟨nd, rfl⟩⟩) | (go_at_call 25; (with_reducible refine (slices_Equal_uint64_uint64.calls k _ _ l0_7 _ _ l1_7 false _ ?side1 ?side2 ?side3 ?side4 A7.out).mono ?_); (case side1 => repeat (first | exact (Kd.C_below HR0_7.out (by repeat (first | (with_reducible first | exact HB.out | apply zb1 | apply zb2 | apply zb3 | refine zb4 ?_ GE140.out | refine zb4 ?_ GE141.out) | exact HB.out))) | (with_reducible refine Kd.C_alloc ?_ _) | (with_reducible refine Kd.C_drewN ?_ _) | (with_reducible refine Kd.C_drew ?_))); (case side2 => exact HC0_7.out); (case side3 => repeat (first | exact (Kd.C_below HR1_7.out (by repeat (first | (with_reducible first | exact HB.out | apply zb1 | apply zb2 | apply zb3 | refine zb4 ?_ GE140.out | refine zb4 ?_ GE141.out) | exact HB.out))) | (with_reducible refine Kd.C_alloc ?_ _) | (with_reducible refine Kd.C_drewN ?_ _) | (with_reducible refine Kd.C_drew ?_))); (case side4 => exact HC1_7.out); rintro e w' ⟨rfl, ⟨nd, rfl⟩⟩))
        go_ret
        exact ⟨by first | rfl | (simp [errW_none, errW_some] <;> rfl) | (simp [*, errW_none, errW_some] <;> rfl), by repeat (first | (with_reducible first | exact HB.out | apply zb1 | apply zb2 | apply zb3 | refine zb4 ?_ GE140.out | refine zb4 ?_ GE141.out) | exact HB.out)⟩
    · replace c6 := Bool.eq_false_iff.mpr c6
      subst c6
      have H1 : (some false) = some r := by rw [if_neg (show ¬ (false = true) by decide)] at H; exact H
      clear H
      have H := H1
      clear H1
      obtain rfl := Option.some.inj H
      go_enter Tryd.func12, Tryd.ntmps12
      go_wp2_with (first | ((with_reducible refine gate_dst (N := 2) rfl ?_); refine box_event ?hg (N := 2) ?hd (cs := #[.int .i64 a0_0, .int .i64 a0_1, .int .i64 a0_2, .int .i64 a0_3, .int .i64 a0_4, .slice A0_5 l0_5.length c0_5, .slice A0_6 l0_6.length c0_6, .slice A0_7 l0_7.length c0_7, .bool a0_8]) (t := 34) ?hr ?_; (case hd => rfl); (case hg => rfl); (case hr => first | (go_simp; done) | (go_simp; rfl)); intro gb140 hg w31 hbox hb; have n0_ := zm (below_step (by repeat (first | (with_reducible first | exact HB.out | apply zb1 | apply zb2 | apply zb3) | exact HB.out)) hb); have n1_ := zm (hbox); have n2_ := zm ((by rw [hg]; exact (below_size (by repeat (first | (with_reducible first | exact HB.out | apply zb1 | apply zb2 | apply zb3) | exact HB.out))) : w.heap.size ≤ gb140)); have n3_ := zm ((by rw [hg]; exact (below_size (by repeat (first | (with_reducible first | exact HB.out | apply zb1 | apply zb2 | apply zb3) | exact HB.out))) : w.heap.size ≤ gb140)); clear HB; have HB := n0_; have BK140 := n1_; have GW140 := n2_; have GE140 := n3_; clear n0_ n1_ n2_ n3_; clear hb hbox hg) | ((with_reducible refine gate_dst (N := 3) rfl ?_); refine box_event ?hg (N := 3) ?hd (cs := #[.int .i64 a1_0, .int .i64 a1_1, .int .i64 a1_2, .int .i64 a1_3, .int .i64 a1_4, .slice A1_5 l1_5.length c1_5, .slice A1_6 l1_6.length c1_6, .slice A1_7 l1_7.length c1_7, .bool a1_8]) (t := 34) ?hr ?_; (case hd => rfl); (case hg => rfl); (case hr => first | (go_simp; done) | (go_simp; rfl)); intro gb141 hg w32 hbox hb; have n0_ := zm (blk_below (g := gb140) (o := .cells #[.int .i64 a0_0, .int .i64 a0_1, .int .i64 a0_2, .int .i64 a0_3, .int .i64 a0_4, .slice A0_5 l0_5.length c0_5, .slice A0_6 l0_6.length c0_6, .slice A0_7 l0_7.length c0_7, .bool a0_8] 34 (0, 0)) (by (with_reducible repeat first | refine zk1 ?_ _ | refine zk2 ?_ | refine zk3 ?_ _); exact BK140.out) hb); have n1_ := zm (below_step (by repeat (first | (with_reducible first | exact HB.out | apply zb1 | apply zb2 | apply zb3 | refine zb4 ?_ GE140.out) | exact HB.out)) hb); have n2_ := zm (hbox); have n3_ := zm ((by rw [hg]; exact (below_size (by repeat (first | (with_reducible first | exact HB.out | apply zb1 | apply zb2 | apply zb3 | refine zb4 ?_ GE140.out) | exact HB.out))) : w.heap.size ≤ gb141)); have n4_ := zm ((by rw [hg]; exact (below_size (by repeat (first | (with_reducible first | exact HB.out | apply zb1 | apply zb2 | apply zb3 | refine zb4 ?_ GE140.out) | exact HB.out))) : w.heap.size ≤ gb141)); have n5_ := zm ((by rw [hg]; exact Nat.ne_of_lt (blk_lt (g := gb140) (by (with_reducible repeat first | refine zk1 ?_ _ | refine zk2 ?_ | refine zk3 ?_ _); exact BK140.out)) : gb140 ≠ gb141)); have n6_ := zm ((by rw [hg]; exact Nat.ne_of_gt (blk_lt (g := gb140) (by (with_reducible repeat first | refine zk1 ?_ _ | refine zk2 ?_ | refine zk3 ?_ _); exact BK140.out)) : gb141 ≠ gb140)); clear BK140 HB; have BK140 := n0_; have HB := n1_; have BK141 := n2_; have GW141 := n3_; have GE141 := n4_; have NB140_141 := n5_; have NB141_140 := n6_; clear n0_ n1_ n2_ n3_ n4_ n5_ n6_; clear hb hbox hg; have hnb33 := NB140_141.out; have hnc33 := NB141_140.out; have hcz34_0 : w32.cell? ⟨gb140, 0, none⟩ = some (.int .i64 a0_0) := (blk_cell BK140.out 0).trans rfl; have hcz34_1 : w32.cell? ⟨gb140, 1, none⟩ = some (.int .i64 a0_1) := (blk_cell BK140.out 1).trans rfl; have hcz34_2 : w32.cell? ⟨gb140, 2, none⟩ = some (.int .i64 a0_2) := (blk_cell BK140.out 2).trans rfl; have hcz34_3 : w32.cell? ⟨gb140, 3, none⟩ = some (.int .i64 a0_3) := (blk_cell BK140.out 3).trans rfl; have hcz34_4 : w32.cell? ⟨gb140, 4, none⟩ = some (.int .i64 a0_4) := (blk_cell BK140.out 4).trans rfl; have hcz34_5 : w32.cell? ⟨gb140, 5, none⟩ = some (.slice A0_5 l0_5.length c0_5) := (blk_cell BK140.out 5).trans rfl; have hcz34_6 : w32.cell? ⟨gb140, 6, none⟩ = some (.slice A0_6 l0_6.length c0_6) := (blk_cell BK140.out 6).trans rfl; have hcz34_7 : w32.cell? ⟨gb140, 7, none⟩ = some (.slice A0_7 l0_7.length c0_7) := (blk_cell BK140.out 7).trans rfl; have hcz34_8 : w32.cell? ⟨gb140, 8, none⟩ = some (.bool a0_8) := (blk_cell BK140.out 8).trans rfl; have hfz34_0 := blk_frozen BK140.out 0; have hfz34_1 := blk_frozen BK140.out 1; have hfz34_2 := blk_frozen BK140.out 2; have hfz34_3 := blk_frozen BK140.out 3; have hfz34_4 := blk_frozen BK140.out 4; have hfz34_5 := blk_frozen BK140.out 5; have hfz34_6 := blk_frozen BK140.out 6; have hfz34_7 := blk_frozen BK140.out 7; have hfz34_8 := blk_frozen BK140.out 8; have hcz35_0 : w32.cell? ⟨gb141, 0, none⟩ = some (.int .i64 a1_0) := (blk_cell BK141.out 0).trans rfl; have hcz35_1 : w32.cell? ⟨gb141, 1, none⟩ = some (.int .i64 a1_1) := (blk_cell BK141.out 1).trans rfl; have hcz35_2 : w32.cell? ⟨gb141, 2, none⟩ = some (.int .i64 a1_2) := (blk_cell BK141.out 2).trans rfl; have hcz35_3 : w32.cell? ⟨gb141, 3, none⟩ = some (.int .i64 a1_3) := (blk_cell BK141.out 3).trans rfl; have hcz35_4 : w32.cell? ⟨gb141, 4, none⟩ = some (.int .i64 a1_4) := (blk_cell BK141.out 4).trans rfl; have hcz35_5 : w32.cell? ⟨gb141, 5, none⟩ = some (.slice A1_5 l1_5.length c1_5) := (blk_cell BK141.out 5).trans rfl; have hcz35_6 : w32.cell? ⟨gb141, 6, none⟩ = some (.slice A1_6 l1_6.length c1_6) := (blk_cell BK141.out 6).trans rfl; have hcz35_7 : w32.cell? ⟨gb141, 7, none⟩ = some (.slice A1_7 l1_7.length c1_7) := (blk_cell BK141.out 7).trans rfl; have hcz35_8 : w32.cell? ⟨gb141, 8, none⟩ = some (.bool a1_8) := (blk_cell BK141.out 8).trans rfl; have hfz35_0 := blk_frozen BK141.out 0; have hfz35_1 := blk_frozen BK141.out 1; have hfz35_2 := blk_frozen BK141.out 2; have hfz35_3 := blk_frozen BK141.out 3; have hfz35_4 := blk_frozen BK141.out 4; have hfz35_5 := blk_frozen BK141.out 5; have hfz35_6 := blk_frozen BK141.out 6; have hfz35_7 := blk_frozen BK141.out 7; have hfz35_8 := blk_frozen BK141.out 8) | ((with_reducible refine gate_callee (f := 25) rfl ?_); refine goesL_ (some 12) rfl rfl Tryd.func25 (by kernel_rfl) rfl #[.slice A0_5 l0_5.length c0_5, .slice A1_5 l1_5.length c1_5] rfl (by (try simp only [List.map_toArray, List.map_cons, List.map_nil]); first | done | rfl | (simp only [List.length_drop, List.length_take]; rfl)) ?_; (with_reducible refine (slices_Equal_uint64_uint64.calls k _ _ l0_5 _ _ l1_5 true _ ?side1 ?side2 ?side3 ?side4 A3.out).mono ?_); (case side1 => repeat (first | exact (Kd.C_below HR0_5.out HB.out) | (with_reducible refine Kd.C_alloc ?_ _) | (with_reducible refine Kd.C_drewN ?_ _) | (with_reducible refine Kd.C_drew ?_))); (case side2 => exact HC0_5.out); (case side3 => repeat (first | exact (Kd.C_below HR1_5.out HB.out) | (with_reducible refine Kd.C_alloc ?_ _) | (with_reducible refine Kd.C_drewN ?_ _) | (with_reducible refine Kd.C_drew ?_))); (case side4 => exact HC1_5.out); rintro e w' ⟨rfl, ⟨nd, rfl⟩⟩; refine ⟨_, rfl, ?_⟩) | (go_at_call 25; (with_reducible refine (slices_Equal_uint64_uint64.calls k _ _ l0_6 _ _ l1_6 false _ ?side1 ?side2 ?side3 ?side4 A5.out).mono ?_); (case side1 => repeat (first | exact (Kd.C_below HR0_6.out (by repeat (first | (with_reducible first | exact HB.out | apply zb1 | apply zb2 | apply zb3 | refine zb4 ?_ GE140.out | refine zb4 ?_ GE141.out) | exact HB.out))) | (with_reducible refine Kd.C_alloc ?_ _) | (with_reducible refine Kd.C_drewN ?_ _) | (with_reducible refine Kd.C_drew ?_))); (case side2 => exact HC0_6.out); (case side3 => repeat (first | exact (Kd.C_below HR1_6.out (by repeat (first | (with_reducible first | exact HB.out | apply zb1 | apply zb2 | apply zb3 | refine zb4 ?_ GE140.out | refine zb4 ?_ GE141.out) | exact HB.out))) | (with_reducible refine Kd.C_alloc ?_ _) | (with_reducible refine Kd.C_drewN ?_ _) | (with_reducible refine Kd.C_drew ?_))); (case side4 => exact HC1_6.out); rintro e w' ⟨rfl, ⟨nd, rfl⟩⟩))
      go_ret
      exact ⟨by first | rfl | (simp [errW_none, errW_some] <;> rfl) | (simp [*, errW_none, errW_some] <;> rfl), by repeat (first | (with_reducible first | exact HB.out | apply zb1 | apply zb2 | apply zb3 | refine zb4 ?_ GE140.out | refine zb4 ?_ GE141.out) | exact HB.out)⟩
  · replace c4 := Bool.eq_false_iff.mpr c4
    subst c4
    have H1 : (some false) = some r := by rw [if_neg (show ¬ (false = true) by decide)] at H; exact H
    clear H
    have H := H1
    clear H1
    obtain rfl := Option.some.inj H
    go_enter Tryd.func12, Tryd.ntmps12
    go_wp2_with (first | ((with_reducible refine gate_dst (N := 2) rfl ?_); refine box_event ?hg (N := 2) ?hd (cs := #[.int .i64 a0_0, .int .i64 a0_1, .int .i64 a0_2, .int .i64 a0_3, .int .i64 a0_4, .slice A0_5 l0_5.length c0_5, .slice A0_6 l0_6.length c0_6, .slice A0_7 l0_7.length c0_7, .bool a0_8]) (t := 34) ?hr ?_; (case hd => rfl); (case hg => rfl); (case hr => first | (go_simp; done) | (go_simp; rfl)); intro gb140 hg w36 hbox hb; have n0_ := zm (below_step (by repeat (first | (with_reducible first | exact HB.out | apply zb1 | apply zb2 | apply zb3) | exact HB.out)) hb); have n1_ := zm (hbox); have n2_ := zm ((by rw [hg]; exact (below_size (by repeat (first | (with_reducible first | exact HB.out | apply zb1 | apply zb2 | apply zb3) | exact HB.out))) : w.heap.size ≤ gb140)); have n3_ := zm ((by rw [hg]; exact (below_size (by repeat (first | (with_reducible first | exact HB.out | apply zb1 | apply zb2 | apply zb3) | exact HB.out))) : w.heap.size ≤ gb140)); clear HB; have HB := n0_; have BK140 := n1_; have GW140 := n2_; have GE140 := n3_; clear n0_ n1_ n2_ n3_; clear hb hbox hg) | ((with_reducible refine gate_dst (N := 3) rfl ?_); refine box_event ?hg (N := 3) ?hd (cs := #[.int .i64 a1_0, .int .i64 a1_1, .int .i64 a1_2, .int .i64 a1_3, .int .i64 a1_4, .slice A1_5 l1_5.length c1_5, .slice A1_6 l1_6.length c1_6, .slice A1_7 l1_7.length c1_7, .bool a1_8]) (t := 34) ?hr ?_; (case hd => rfl); (case hg => rfl); (case hr => first | (go_simp; done) | (go_simp; rfl)); intro gb141 hg w37 hbox hb; have n0_ := zm (blk_below (g := gb140) (o := .cells #[.int .i64 a0_0, .int .i64 a0_1, .int .i64 a0_2, .int .i64 a0_3, .int .i64 a0_4, .slice A0_5 l0_5.length c0_5, .slice A0_6 l0_6.length c0_6, .slice A0_7 l0_7.length c0_7, .bool a0_8] 34 (0, 0)) (by (with_reducible repeat first | refine zk1 ?_ _ | refine zk2 ?_ | refine zk3 ?_ _); exact BK140.out) hb); have n1_ := zm (below_step (by repeat (first | (with_reducible first | exact HB.out | apply zb1 | apply zb2 | apply zb3 | refine zb4 ?_ GE140.out) | exact HB.out)) hb); have n2_ := zm (hbox); have n3_ := zm ((by rw [hg]; exact (below_size (by repeat (first | (with_reducible first | exact HB.out | apply zb1 | apply zb2 | apply zb3 | refine zb4 ?_ GE140.out) | exact HB.out))) : w.heap.size ≤ gb141)); have n4_ := zm ((by rw [hg]; exact (below_size (by repeat (first | (with_reducible first | exact HB.out | apply zb1 | apply zb2 | apply zb3 | refine zb4 ?_ GE140.out) | exact HB.out))) : w.heap.size ≤ gb141)); have n5_ := zm ((by rw [hg]; exact Nat.ne_of_lt (blk_lt (g := gb140) (by (with_reducible repeat first | refine zk1 ?_ _ | refine zk2 ?_ | refine zk3 ?_ _); exact BK140.out)) : gb140 ≠ gb141)); have n6_ := zm ((by rw [hg]; exact Nat.ne_of_gt (blk_lt (g := gb140) (by (with_reducible repeat first | refine zk1 ?_ _ | refine zk2 ?_ | refine zk3 ?_ _); exact BK140.out)) : gb141 ≠ gb140)); clear BK140 HB; have BK140 := n0_; have HB := n1_; have BK141 := n2_; have GW141 := n3_; have GE141 := n4_; have NB140_141 := n5_; have NB141_140 := n6_; clear n0_ n1_ n2_ n3_ n4_ n5_ n6_; clear hb hbox hg; have hnb38 := NB140_141.out; have hnc38 := NB141_140.out; have hcz39_0 : w37.cell? ⟨gb140, 0, none⟩ = some (.int .i64 a0_0) := (blk_cell BK140.out 0).trans rfl; have hcz39_1 : w37.cell? ⟨gb140, 1, none⟩ = some (.int .i64 a0_1) := (blk_cell BK140.out 1).trans rfl; have hcz39_2 : w37.cell? ⟨gb140, 2, none⟩ = some (.int .i64 a0_2) := (blk_cell BK140.out 2).trans rfl; have hcz39_3 : w37.cell? ⟨gb140, 3, none⟩ = some (.int .i64 a0_3) := (blk_cell BK140.out 3).trans rfl; have hcz39_4 : w37.cell? ⟨gb140, 4, none⟩ = some (.int .i64 a0_4) := (blk_cell BK140.out 4).trans rfl; have hcz39_5 : w37.cell? ⟨gb140, 5, none⟩ = some (.slice A0_5 l0_5.length c0_5) := (blk_cell BK140.out 5).trans rfl; have hcz39_6 : w37.cell? ⟨gb140, 6, none⟩ = some (.slice A0_6 l0_6.length c0_6) := (blk_cell BK140.out 6).trans rfl; have hcz39_7 : w37.cell? ⟨gb140, 7, none⟩ = some (.slice A0_7 l0_7.length c0_7) := (blk_cell BK140.out 7).trans rfl; have hcz39_8 : w37.cell? ⟨gb140, 8, none⟩ = some (.bool a0_8) := (blk_cell BK140.out 8).trans rfl; have hfz39_0 := blk_frozen BK140.out 0; have hfz39_1 := blk_frozen BK140.out 1; have hfz39_2 := blk_frozen BK140.out 2; have hfz39_3 := blk_frozen BK140.out 3; have hfz39_4 := blk_frozen BK140.out 4; have hfz39_5 := blk_frozen BK140.out 5; have hfz39_6 := blk_frozen BK140.out 6; have hfz39_7 := blk_frozen BK140.out 7; have hfz39_8 := blk_frozen BK140.out 8; have hcz40_0 : w37.cell? ⟨gb141, 0, none⟩ = some (.int .i64 a1_0) := (blk_cell BK141.out 0).trans rfl; have hcz40_1 : w37.cell? ⟨gb141, 1, none⟩ = some (.int .i64 a1_1) := (blk_cell BK141.out 1).trans rfl; have hcz40_2 : w37.cell? ⟨gb141, 2, none⟩ = some (.int .i64 a1_2) := (blk_cell BK141.out 2).trans rfl; have hcz40_3 : w37.cell? ⟨gb141, 3, none⟩ = some (.int .i64 a1_3) := (blk_cell BK141.out 3).trans rfl; have hcz40_4 : w37.cell? ⟨gb141, 4, none⟩ = some (.int .i64 a1_4) := (blk_cell BK141.out 4).trans rfl; have hcz40_5 : w37.cell? ⟨gb141, 5, none⟩ = some (.slice A1_5 l1_5.length c1_5) := (blk_cell BK141.out 5).trans rfl; have hcz40_6 : w37.cell? ⟨gb141, 6, none⟩ = some (.slice A1_6 l1_6.length c1_6) := (blk_cell BK141.out 6).trans rfl; have hcz40_7 : w37.cell? ⟨gb141, 7, none⟩ = some (.slice A1_7 l1_7.length c1_7) := (blk_cell BK141.out 7).trans rfl; have hcz40_8 : w37.cell? ⟨gb141, 8, none⟩ = some (.bool a1_8) := (blk_cell BK141.out 8).trans rfl; have hfz40_0 := blk_frozen BK141.out 0; have hfz40_1 := blk_frozen BK141.out 1; have hfz40_2 := blk_frozen BK141.out 2; have hfz40_3 := blk_frozen BK141.out 3; have hfz40_4 := blk_frozen BK141.out 4; have hfz40_5 := blk_frozen BK141.out 5; have hfz40_6 := blk_frozen BK141.out 6; have hfz40_7 := blk_frozen BK141.out 7; have hfz40_8 := blk_frozen BK141.out 8) | ((with_reducible refine gate_callee (f := 25) rfl ?_); refine goesL_ (some 12) rfl rfl Tryd.func25 (by kernel_rfl) rfl #[.slice A0_5 l0_5.length c0_5, .slice A1_5 l1_5.length c1_5] rfl (by (try simp only [List.map_toArray, List.map_cons, List.map_nil]); first | done | rfl | (simp only [List.length_drop, List.length_take]; rfl)) ?_; (with_reducible refine (slices_Equal_uint64_uint64.calls k _ _ l0_5 _ _ l1_5 false _ ?side1 ?side2 ?side3 ?side4 A3.out).mono ?_); (case side1 => repeat (first | exact (Kd.C_below HR0_5.out HB.out) | (with_reducible refine Kd.C_alloc ?_ _) | (with_reducible refine Kd.C_drewN ?_ _) | (with_reducible refine Kd.C_drew ?_))); (case side2 => exact HC0_5.out); (case side3 => repeat (first | exact (Kd.C_below HR1_5.out HB.out) | (with_reducible refine Kd.C_alloc ?_ _) | (with_reducible refine Kd.C_drewN ?_ _) | (with_reducible refine Kd.C_drew ?_))); (case side4 => exact HC1_5.out); rintro e w' ⟨rfl, ⟨nd, rfl⟩⟩; refine ⟨_, rfl, ?_⟩))
    go_ret
    exact ⟨by first | rfl | (simp [errW_none, errW_some] <;> rfl) | (simp [*, errW_none, errW_some] <;> rfl), by repeat (first | (with_reducible first | exact HB.out | apply zb1 | apply zb2 | apply zb3 | refine zb4 ?_ GE140.out | refine zb4 ?_ GE141.out) | exact HB.out)⟩

-- by hand: function 9 (crc_Of)

/-! ### tallystickref04_Same: function 31 -/
def tallystickref04_Same.l0 : Nat → List Int → List Int → Int → Option (Bool)
  | 0, _, _, _ => none
  | k + 1, x0, x1, x5 => if x5 < (x0.length : Int) then (if 0 ≤ x5 then (if x5 < (x1.length : Int) then (if (rd x0 x5) = (rd x1 x5) then (tallystickref04_Same.l0 k x0 x1 (wrap64 (x5 + 1))) else (some false)) else (none)) else (none)) else (some true)
def tallystickref04_Same.f (k : Nat) (l0 : List Int) (l1 : List Int) : Option (Bool) := if (l0.length : Int) = (l1.length : Int) then (tallystickref04_Same.l0 k l0 l1 0) else (some false)
theorem tallystickref04_Same.mono_l : ∀ k, (∀ y0 y1 y2, LeO (tallystickref04_Same.l0 k y0 y1 y2) (tallystickref04_Same.l0 (k + 1) y0 y1 y2))
  | 0 => fun _ _ _ r h => by simp [tallystickref04_Same.l0] at h
  | k + 1 => by
    have ih0 := tallystickref04_Same.mono_l k
    · intro y0 y1 y2
      unfold tallystickref04_Same.l0
      repeat' first
      | (with_reducible exact ih0 _ _ _)
      | (with_reducible exact LeO.refl _)
      | (with_reducible exact LeO.none _)
      | (with_reducible refine LeO.ite ?_ ?_)
      | (with_reducible refine LeO.bind ?_ (fun _ => ?_))
      | exact ih0 _ _ _
      | exact LeO.none _
      | refine LeO.ite ?_ ?_
      | refine LeO.bind ?_ (fun _ => ?_)
theorem tallystickref04_Same.mono : ∀ a0 a1 k, LeO (tallystickref04_Same.f k a0 a1) (tallystickref04_Same.f (k + 1) a0 a1) := by
  intro a0 a1 k
  have ih0 := tallystickref04_Same.mono_l k
  unfold tallystickref04_Same.f
  repeat' first
      | (with_reducible exact ih0 _ _ _)
      | (with_reducible exact LeO.refl _)
      | (with_reducible exact LeO.none _)
      | (with_reducible refine LeO.ite ?_ ?_)
      | (with_reducible refine LeO.bind ?_ (fun _ => ?_))
      | exact ih0 _ _ _
      | exact LeO.none _
      | refine LeO.ite ?_ ?_
      | refine LeO.bind ?_ (fun _ => ?_)
set_option maxHeartbeats 8000000 in
set_option maxRecDepth 100000 in
theorem tallystickref04_Same.calls (k : Nat) (A0 : Option Addr) (c0 : Nat) (l0 : List Int) (A1 : Option Addr) (c1 : Nat) (l1 : List Int) (r : Bool) (w : World) (hr0 : Kd.C (Kd.int .u64) w A0 l0.length l0) (hc0 : l0.length ≤ c0) (hr1 : Kd.C (Kd.int .u64) w A1 l1.length l1) (hc1 : l1.length ≤ c1) (h : tallystickref04_Same.f k l0 l1 = some r) :
    Calls Tryd.prog 31 #[.slice A0 l0.length c0, .slice A1 l1.length c1] w fun e w' => e = .returned (.bool r) ∧ Drawn0 w w' := by
  have HR0 := zm hr0
  have HC0 := zm hc0
  clear hr0 hc0
  have HR1 := zm hr1
  have HC1 := zm hc1
  clear hr1 hc1
  have H : (if (l0.length : Int) = (l1.length : Int) then (tallystickref04_Same.l0 k l0 l1 0) else (some false)) = some r := h
  clear h
  by_cases c3 : (l0.length : Int) = (l1.length : Int)
  · rw [if_pos c3] at H
    have c3b0 : ((l0.length : Int) == (l1.length : Int)) = true := beq_iff_eq.mpr c3
    have c3b1 : ((l0.length : Int) != (l1.length : Int)) = false := bne_eq_false_iff_eq.mpr c3
    have c3b2 : (l0.length == l1.length) = true := by first | simpa using c3 | (simp at c3 ⊢; omega)
    clear c3
    have H' := zm H
    clear H
    go_enter Tryd.func31, Tryd.ntmps31
    go_wp2
    repeat (go_quiet (fail); try go_wp2)
    go_loopg [5] k (fun kq v5 w' => ∃ (x5_1 : Int), v5 = .int .i64 x5_1 ∧ Aside0 (tallystickref04_Same.l0 kq l0 l1 x5_1 = some r) ∧ Aside0 (kq ≤ k) ∧ Drawn0 w w')
    case atStart => exact ⟨(0), (by first | rfl | (simp; done) | (simp [*]; done)), H', ⟨Nat.le_refl _⟩, by repeat (first | exact Drawn0.refl _ | apply Drawn0.step)⟩
    case round =>
      clear H'
      try clear c1
      try clear p2
      try clear c3
      try clear c3b0
      try clear c3b1
      try clear c3b2
      obtain ⟨x5_1, rfl, HA, HK1, ⟨m1, rfl⟩⟩ := hrel
      cases gk with
      | zero => exact absurd HA.out (by simp [tallystickref04_Same.l0])
      | succ k1 =>
        have H := HA.out
        clear HA
        simp only [tallystickref04_Same.l0] at H
        by_cases c4 : x5_1 < (l0.length : Int)
        · rw [if_pos c4] at H
          have c4b0 : decide (x5_1 < (l0.length : Int)) = true := decide_eq_true c4
          clear c4
          by_cases c5 : 0 ≤ x5_1
          · rw [if_pos c5] at H
            have c5b0 : decide (0 ≤ x5_1) = true := decide_eq_true c5
            clear c5
            by_cases c6 : x5_1 < (l1.length : Int)
            · rw [if_pos c6] at H
              have c6b0 : decide (x5_1 < (l1.length : Int)) = true := decide_eq_true c6
              clear c6
              by_cases c7 : (rd l0 x5_1) = (rd l1 x5_1)
              · rw [if_pos c7] at H
                have c7b0 : ((rd l0 x5_1) == (rd l1 x5_1)) = true := beq_iff_eq.mpr c7
                have c7b1 : ((rd l0 x5_1) != (rd l1 x5_1)) = false := bne_eq_false_iff_eq.mpr c7
                clear c7
                have H' := zm H
                clear H
                have p145 : 0 ≤ (x5_1 : Int) := of_decide_eq_true (by first | (with_reducible assumption) | assumption)
                have q145 : x5_1 < (l0.length : Int) := of_decide_eq_true (by first | (with_reducible assumption) | assumption)
                obtain ⟨ad145, e145, hx145_0⟩ := Kd.at_int HR0.out x5_1 p145 q145
                cases e145
                replace p145 := eq_true p145
                replace q145 := eq_true q145
                have p146 : 0 ≤ (x5_1 : Int) := of_decide_eq_true (by first | (with_reducible assumption) | assumption)
                have q146 : x5_1 < (l1.length : Int) := of_decide_eq_true (by first | (with_reducible assumption) | assumption)
                obtain ⟨ad146, e146, hx146_0⟩ := Kd.at_int HR1.out x5_1 p146 q146
                cases e146
                replace p146 := eq_true p146
                replace q146 := eq_true q146
                go_wp2
                repeat (go_quiet (fail); try go_wp2)
                go_roundg k1
                case measure => have := HK1.out; omega
                case rel => exact ⟨(wrap64 (x5_1 + 1)), (by first | rfl | (simp; done) | (simp [*]; done)), H', ⟨by have := HK1.out; omega⟩, by repeat (first | exact Drawn0.refl _ | apply Drawn0.step)⟩
              · rw [if_neg c7] at H
                have c7b0 : ((rd l0 x5_1) == (rd l1 x5_1)) = false := beq_eq_false_iff_ne.mpr c7
                have c7b1 : ((rd l0 x5_1) != (rd l1 x5_1)) = true := bne_iff_ne.mpr c7
                obtain rfl := Option.some.inj H
                have p145 : 0 ≤ (x5_1 : Int) := of_decide_eq_true (by first | (with_reducible assumption) | assumption)
                have q145 : x5_1 < (l0.length : Int) := of_decide_eq_true (by first | (with_reducible assumption) | assumption)
                obtain ⟨ad145, e145, hx145_0⟩ := Kd.at_int HR0.out x5_1 p145 q145
                cases e145
                replace p145 := eq_true p145
                replace q145 := eq_true q145
                have p146 : 0 ≤ (x5_1 : Int) := of_decide_eq_true (by first | (with_reducible assumption) | assumption)
                have q146 : x5_1 < (l1.length : Int) := of_decide_eq_true (by first | (with_reducible assumption) | assumption)
                obtain ⟨ad146, e146, hx146_0⟩ := Kd.at_int HR1.out x5_1 p146 q146
                cases e146
                replace p146 := eq_true p146
                replace q146 := eq_true q146
                go_wp2
                repeat (go_quiet (fail); try go_wp2)
                go_ret
                exact ⟨by first | rfl | (simp; done) | (simp [*]; done), by repeat (first | exact Drawn0.refl _ | apply Drawn0.step)⟩
            · rw [if_neg c6] at H
              exact absurd H (by simp)
          · rw [if_neg c5] at H
            exact absurd H (by simp)
        · rw [if_neg c4] at H
          have c4b0 : decide (x5_1 < (l0.length : Int)) = false := decide_eq_false c4
          clear c4
          obtain rfl := Option.some.inj H
          go_wp2
          repeat (go_quiet (fail); try go_wp2)
          go_ret
          exact ⟨by first | rfl | (simp; done) | (simp [*]; done), by repeat (first | exact Drawn0.refl _ | apply Drawn0.step)⟩
  · rw [if_neg c3] at H
    have c3b0 : ((l0.length : Int) == (l1.length : Int)) = false := beq_eq_false_iff_ne.mpr c3
    have c3b1 : ((l0.length : Int) != (l1.length : Int)) = true := bne_iff_ne.mpr c3
    have c3b2 : (l0.length == l1.length) = false := by first | simpa using c3 | (simp at c3 ⊢; omega)
    obtain rfl := Option.some.inj H
    go_enter Tryd.func31, Tryd.ntmps31
    go_wp2
    repeat (go_quiet (fail); try go_wp2)
    go_ret
    exact ⟨by first | rfl | (simp; done) | (simp [*]; done), by repeat (first | exact Drawn0.refl _ | apply Drawn0.step)⟩

/-! ### tallystickref14_SamePart: function 17 -/
def tallystickref14_SamePart.f (k : Nat) (a0_0 : Int) (a0_1 : Int) (l0_2 : List Int) (l0_3 : List Int) (l0_4 : List Int) (a0_5 : Bool) (a1_0 : Int) (a1_1 : Int) (l1_2 : List Int) (l1_3 : List Int) (l1_4 : List Int) (a1_5 : Bool) : Option (Bool) := (tallystickref04_Same.f k l0_2 l1_2).bind fun t149 => (if t149 = true then ((tallystickref04_Same.f k l0_3 l1_3).bind fun t150 => (if t150 = true then ((tallystickref04_Same.f k l0_4 l1_4).bind fun t151 => (if t151 = true then (if (a0_0 == a1_0 && (a0_1 == a1_1)) = true then (some (a0_5 == a1_5)) else (some false)) else (some false))) else (some false))) else (some false))
theorem tallystickref14_SamePart.mono : ∀ a0 a1 a2 a3 a4 a5 a6 a7 a8 a9 a10 a11 k, LeO (tallystickref14_SamePart.f k a0 a1 a2 a3 a4 a5 a6 a7 a8 a9 a10 a11) (tallystickref14_SamePart.f (k + 1) a0 a1 a2 a3 a4 a5 a6 a7 a8 a9 a10 a11) := by
  intro a0 a1 a2 a3 a4 a5 a6 a7 a8 a9 a10 a11 k
  unfold tallystickref14_SamePart.f
  repeat' first
      | (with_reducible exact tallystickref04_Same.mono _ _ _)
      | (with_reducible exact LeO.refl _)
      | (with_reducible exact LeO.none _)
      | (with_reducible refine LeO.ite ?_ ?_)
      | (with_reducible refine LeO.bind ?_ (fun _ => ?_))
      | exact tallystickref04_Same.mono _ _ _
      | exact LeO.none _
      | refine LeO.ite ?_ ?_
      | refine LeO.bind ?_ (fun _ => ?_)
set_option maxHeartbeats 8000000 in
set_option maxRecDepth 100000 in
theorem tallystickref14_SamePart.calls (k : Nat) (a0_0 : Int) (a0_1 : Int) (A0_2 : Option Addr) (c0_2 : Nat) (l0_2 : List Int) (A0_3 : Option Addr) (c0_3 : Nat) (l0_3 : List Int) (A0_4 : Option Addr) (c0_4 : Nat) (l0_4 : List Int) (a0_5 : Bool) (a1_0 : Int) (a1_1 : Int) (A1_2 : Option Addr) (c1_2 : Nat) (l1_2 : List Int) (A1_3 : Option Addr) (c1_3 : Nat) (l1_3 : List Int) (A1_4 : Option Addr) (c1_4 : Nat) (l1_4 : List Int) (a1_5 : Bool) (r : Bool) (w : World) (hr0_2 : Kd.C (Kd.int .u64) w A0_2 l0_2.length l0_2) (hc0_2 : l0_2.length ≤ c0_2) (hr0_3 : Kd.C (Kd.int .u64) w A0_3 l0_3.length l0_3) (hc0_3 : l0_3.length ≤ c0_3) (hr0_4 : Kd.C (Kd.int .u64) w A0_4 l0_4.length l0_4) (hc0_4 : l0_4.length ≤ c0_4) (hr1_2 : Kd.C (Kd.int .u64) w A1_2 l1_2.length l1_2) (hc1_2 : l1_2.length ≤ c1_2) (hr1_3 : Kd.C (Kd.int .u64) w A1_3 l1_3.length l1_3) (hc1_3 : l1_3.length ≤ c1_3) (hr1_4 : Kd.C (Kd.int .u64) w A1_4 l1_4.length l1_4) (hc1_4 : l1_4.length ≤ c1_4) (h : tallystickref14_SamePart.f k a0_0 a0_1 l0_2 l0_3 l0_4 a0_5 a1_0 a1_1 l1_2 l1_3 l1_4 a1_5 = some r) :
    Calls Tryd.prog 17 #[.agg #[.int .i64 a0_0, .int .i64 a0_1, .slice A0_2 l0_2.length c0_2, .slice A0_3 l0_3.length c0_3, .slice A0_4 l0_4.length c0_4, .bool a0_5], .agg #[.int .i64 a1_0, .int .i64 a1_1, .slice A1_2 l1_2.length c1_2, .slice A1_3 l1_3.length c1_3, .slice A1_4 l1_4.length c1_4, .bool a1_5]] w fun e w' => e = .returned (.bool r) ∧ Below w.heap.size w w' := by
  have hu29 := Tryd.underlying29
  have hu26 := Tryd.underlying26
  have HR0_2 := zm hr0_2
  have HC0_2 := zm hc0_2
  clear hr0_2 hc0_2
  have HR0_3 := zm hr0_3
  have HC0_3 := zm hc0_3
  clear hr0_3 hc0_3
  have HR0_4 := zm hr0_4
  have HC0_4 := zm hc0_4
  clear hr0_4 hc0_4
  have HR1_2 := zm hr1_2
  have HC1_2 := zm hc1_2
  clear hr1_2 hc1_2
  have HR1_3 := zm hr1_3
  have HC1_3 := zm hc1_3
  clear hr1_3 hc1_3
  have HR1_4 := zm hr1_4
  have HC1_4 := zm hc1_4
  clear hr1_4 hc1_4
  have HB := zm (Below.refl w.heap.size w)
  have H : ((tallystickref04_Same.f k l0_2 l1_2).bind fun t149 => (if t149 = true then ((tallystickref04_Same.f k l0_3 l1_3).bind fun t150 => (if t150 = true then ((tallystickref04_Same.f k l0_4 l1_4).bind fun t151 => (if t151 = true then (if (a0_0 == a1_0 && (a0_1 == a1_1)) = true then (some (a0_5 == a1_5)) else (some false)) else (some false))) else (some false))) else (some false))) = some r := h
  clear h
  replace H := Option.bind_eq_some_iff.mp H
  obtain ⟨t149, A30, H⟩ := H
  replace H : (if t149 = true then ((tallystickref04_Same.f k l0_3 l1_3).bind fun t150 => (if t150 = true then ((tallystickref04_Same.f k l0_4 l1_4).bind fun t151 => (if t151 = true then (if (a0_0 == a1_0 && (a0_1 == a1_1)) = true then (some (a0_5 == a1_5)) else (some false)) else (some false))) else (some false))) else (some false)) = some r := H
  have A3 := zm A30
  clear A30
  by_cases c4 : t149 = true
  · subst c4
    have H1 : ((tallystickref04_Same.f k l0_3 l1_3).bind fun t150 => (if t150 = true then ((tallystickref04_Same.f k l0_4 l1_4).bind fun t151 => (if t151 = true then (if (a0_0 == a1_0 && (a0_1 == a1_1)) = true then (some (a0_5 == a1_5)) else (some false)) else (some false))) else (some false))) = some r := by rw [if_pos rfl] at H; exact H
    clear H
    have H := H1
    clear H1
    replace H := Option.bind_eq_some_iff.mp H
    obtain ⟨t150, A50, H⟩ := H
    replace H : (if t150 = true then ((tallystickref04_Same.f k l0_4 l1_4).bind fun t151 => (if t151 = true then (if (a0_0 == a1_0 && (a0_1 == a1_1)) = true then (some (a0_5 == a1_5)) else (some false)) else (some false))) else (some false)) = some r := H
    have A5 := zm A50
    clear A50
    by_cases c6 : t150 = true
    · subst c6
      have H1 : ((tallystickref04_Same.f k l0_4 l1_4).bind fun t151 => (if t151 = true then (if (a0_0 == a1_0 && (a0_1 == a1_1)) = true then (some (a0_5 == a1_5)) else (some false)) else (some false))) = some r := by rw [if_pos rfl] at H; exact H
      clear H
      have H := H1
      clear H1
      replace H := Option.bind_eq_some_iff.mp H
      obtain ⟨t151, A70, H⟩ := H
      replace H : (if t151 = true then (if (a0_0 == a1_0 && (a0_1 == a1_1)) = true then (some (a0_5 == a1_5)) else (some false)) else (some false)) = some r := H
      have A7 := zm A70
      clear A70
      by_cases c8 : t151 = true
      · subst c8
        have H1 : (if (a0_0 == a1_0 && (a0_1 == a1_1)) = true then (some (a0_5 == a1_5)) else (some false)) = some r := by rw [if_pos rfl] at H; exact H
        clear H
        have H := H1
        clear H1
        by_cases c9 : (a0_0 == a1_0 && (a0_1 == a1_1)) = true
        · rw [if_pos c9] at H
          have c9b0 : (a0_0 == a1_0 && (a0_1 == a1_1)) = true := c9
          (try (have c9b1 : decide (a0_0 = a1_0 && (a0_1 == a1_1)) = true := by simpa using c9))
          (try (have c9b2 : (a0_0 == a1_0 && (a0_1 == a1_1)) = true := by simpa using c9))
          clear c9
          obtain rfl := Option.some.inj H
          go_enter Tryd.func17, Tryd.ntmps17
          go_wp2_with (first | ((with_reducible refine gate_dst (N := 2) rfl ?_); refine box_event ?hg (N := 2) ?hd (cs := #[.int .i64 a0_0, .int .i64 a0_1, .slice A0_2 l0_2.length c0_2, .slice A0_3 l0_3.length c0_3, .slice A0_4 l0_4.length c0_4, .bool a0_5]) (t := 29) ?hr ?_; (case hd => rfl); (case hg => rfl); (case hr => first | (go_simp; done) | (go_simp; rfl)); intro gb147 hg w10 hbox hb; have n0_ := zm (below_step (by repeat (first | (with_reducible first | exact HB.out | apply zb1 | apply zb2 | apply zb3) | exact HB.out)) hb); have n1_ := zm (hbox); have n2_ := zm ((by rw [hg]; exact (below_size (by repeat (first | (with_reducible first | exact HB.out | apply zb1 | apply zb2 | apply zb3) | exact HB.out))) : w.heap.size ≤ gb147)); have n3_ := zm ((by rw [hg]; exact (below_size (by repeat (first | (with_reducible first | exact HB.out | apply zb1 | apply zb2 | apply zb3) | exact HB.out))) : w.heap.size ≤ gb147)); clear HB; have HB := n0_; have BK147 := n1_; have GW147 := n2_; have GE147 := n3_; clear n0_ n1_ n2_ n3_; clear hb hbox hg) | ((with_reducible refine gate_dst (N := 3) rfl ?_); refine box_event ?hg (N := 3) ?hd (cs := #[.int .i64 a1_0, .int .i64 a1_1, .slice A1_2 l1_2.length c1_2, .slice A1_3 l1_3.length c1_3, .slice A1_4 l1_4.length c1_4, .bool a1_5]) (t := 29) ?hr ?_; (case hd => rfl); (case hg => rfl); (case hr => first | (go_simp; done) | (go_simp; rfl)); intro gb148 hg w11 hbox hb; have n0_ := zm (blk_below (g := gb147) (o := .cells #[.int .i64 a0_0, .int .i64 a0_1, .slice A0_2 l0_2.length c0_2, .slice A0_3 l0_3.length c0_3, .slice A0_4 l0_4.length c0_4, .bool a0_5] 29 (0, 0)) (by (with_reducible repeat first | refine zk1 ?_ _ | refine zk2 ?_ | refine zk3 ?_ _); exact BK147.out) hb); have n1_ := zm (below_step (by repeat (first | (with_reducible first | exact HB.out | apply zb1 | apply zb2 | apply zb3 | refine zb4 ?_ GE147.out) | exact HB.out)) hb); have n2_ := zm (hbox); have n3_ := zm ((by rw [hg]; exact (below_size (by repeat (first | (with_reducible first | exact HB.out | apply zb1 | apply zb2 | apply zb3 | refine zb4 ?_ GE147.out) | exact HB.out))) : w.heap.size ≤ gb148)); have n4_ := zm ((by rw [hg]; exact (below_size (by repeat (first | (with_reducible first | exact HB.out | apply zb1 | apply zb2 | apply zb3 | refine zb4 ?_ GE147.out) | exact HB.out))) : w.heap.size ≤ gb148)); have n5_ := zm ((by rw [hg]; exact Nat.ne_of_lt (blk_lt (g := gb147) (by (with_reducible repeat first | refine zk1 ?_ _ | refine zk2 ?_ | refine zk3 ?_ _); exact BK147.out)) : gb147 ≠ gb148)); have n6_ := zm ((by rw [hg]; exact Nat.ne_of_gt (blk_lt (g := gb147) (by (with_reducible repeat first | refine zk1 ?_ _ | refine zk2 ?_ | refine zk3 ?_ _); exact BK147.out)) : gb148 ≠ gb147)); clear BK147 HB; have BK147 := n0_; have HB := n1_; have BK148 := n2_; have GW148 := n3_; have GE148 := n4_; have NB147_148 := n5_; have NB148_147 := n6_; clear n0_ n1_ n2_ n3_ n4_ n5_ n6_; clear hb hbox hg; have hnb12 := NB147_148.out; have hnc12 := NB148_147.out; have hcz13_0 : w11.cell? ⟨gb147, 0, none⟩ = some (.int .i64 a0_0) := (blk_cell BK147.out 0).trans rfl; have hcz13_1 : w11.cell? ⟨gb147, 1, none⟩ = some (.int .i64 a0_1) := (blk_cell BK147.out 1).trans rfl; have hcz13_2 : w11.cell? ⟨gb147, 2, none⟩ = some (.slice A0_2 l0_2.length c0_2) := (blk_cell BK147.out 2).trans rfl; have hcz13_3 : w11.cell? ⟨gb147, 3, none⟩ = some (.slice A0_3 l0_3.length c0_3) := (blk_cell BK147.out 3).trans rfl; have hcz13_4 : w11.cell? ⟨gb147, 4, none⟩ = some (.slice A0_4 l0_4.length c0_4) := (blk_cell BK147.out 4).trans rfl; have hcz13_5 : w11.cell? ⟨gb147, 5, none⟩ = some (.bool a0_5) := (blk_cell BK147.out 5).trans rfl; have hfz13_0 := blk_frozen BK147.out 0; have hfz13_1 := blk_frozen BK147.out 1; have hfz13_2 := blk_frozen BK147.out 2; have hfz13_3 := blk_frozen BK147.out 3; have hfz13_4 := blk_frozen BK147.out 4; have hfz13_5 := blk_frozen BK147.out 5; have hcz14_0 : w11.cell? ⟨gb148, 0, none⟩ = some (.int .i64 a1_0) := (blk_cell BK148.out 0).trans rfl; have hcz14_1 : w11.cell? ⟨gb148, 1, none⟩ = some (.int .i64 a1_1) := (blk_cell BK148.out 1).trans rfl; have hcz14_2 : w11.cell? ⟨gb148, 2, none⟩ = some (.slice A1_2 l1_2.length c1_2) := (blk_cell BK148.out 2).trans rfl; have hcz14_3 : w11.cell? ⟨gb148, 3, none⟩ = some (.slice A1_3 l1_3.length c1_3) := (blk_cell BK148.out 3).trans rfl; have hcz14_4 : w11.cell? ⟨gb148, 4, none⟩ = some (.slice A1_4 l1_4.length c1_4) := (blk_cell BK148.out 4).trans rfl; have hcz14_5 : w11.cell? ⟨gb148, 5, none⟩ = some (.bool a1_5) := (blk_cell BK148.out 5).trans rfl; have hfz14_0 := blk_frozen BK148.out 0; have hfz14_1 := blk_frozen BK148.out 1; have hfz14_2 := blk_frozen BK148.out 2; have hfz14_3 := blk_frozen BK148.out 3; have hfz14_4 := blk_frozen BK148.out 4; have hfz14_5 := blk_frozen BK148.out 5) | ((with_reducible refine gate_callee (f := 31) rfl ?_); refine goesL_ (some 10) rfl rfl Tryd.func31 (by kernel_rfl) rfl #[.slice A0_2 l0_2.length c0_2, .slice A1_2 l1_2.length c1_2] rfl (by (try simp only [List.map_toArray, List.map_cons, List.map_nil]); first | done | rfl | (simp only [List.length_drop, List.length_take]; rfl)) ?_; (with_reducible refine (tallystickref04_Same.calls k _ _ l0_2 _ _ l1_2 true _ ?side1 ?side2 ?side3 ?side4 A3.out).mono ?_); (case side1 => repeat (first | exact (Kd.C_below HR0_2.out HB.out) | (with_reducible refine Kd.C_alloc ?_ _) | (with_reducible refine Kd.C_drewN ?_ _) | (with_reducible refine Kd.C_drew ?_))); (case side2 => exact HC0_2.out); (case side3 => repeat (first | exact (Kd.C_below HR1_2.out HB.out) | (with_reducible refine Kd.C_alloc ?_ _) | (with_reducible refine Kd.C_drewN ?_ _) | (with_reducible refine Kd.C_drew ?_))); (case side4 => exact HC1_2.out); rintro e w' ⟨rfl, ⟨nd, rfl⟩⟩; refine ⟨_, rfl, ?_⟩) | (go_at_call 31; (with_reducible refine (tallystickref04_Same.calls k _ _ l0_3 _ _ l1_3 true _ ?side1 ?side2 ?side3 ?side4 A5.out).mono ?_); (case side1 => repeat (first | exact (Kd.C_below HR0_3.out (by repeat (first | (with_reducible first | exact HB.out | apply zb1 | apply zb2 | apply zb3 | refine zb4 ?_ GE147.out | refine zb4 ?_ GE148.out) | exact HB.out))) | (with_reducible refine Kd.C_alloc ?_ _) | (with_reducible refine Kd.C_drewN ?_ _) | (with_reducible refine Kd.C_drew ?_))); (case side2 => exact HC0_3.out); (case side3 => repeat (first | exact (Kd.C_below HR1_3.out (by repeat (first | (with_reducible first | exact HB.out | apply zb1 | apply zb2 | apply zb3 | refine zb4 ?_ GE147.out | refine zb4 ?_ GE148.out) | exact HB.out))) | (with_reducible refine Kd.C_alloc ?_ _) | (with_reducible refine Kd.C_drewN ?_ _) | (with_reducible refine Kd.C_drew ?_))); (case side4 => exact HC1_3.out); rintro e w' ⟨rfl, ⟨nd, rfl⟩⟩) | (go_at_call 31; (with_reducible refine (tallystickref04_Same.calls k _ _ l0_4 _ _ l1_4 true _ ?side1 ?side2 ?side3 ?side4 A7.out).mono ?_); (case side1 => repeat (first | exact (Kd.C_below HR0_4.out (by repeat (first | (with_reducible first | exact HB.out | apply zb1 | apply zb2 | apply zb3 | refine zb4 ?_ GE147.out | refine zb4 ?_ GE148.out) | exact HB.out))) | (with_reducible refine Kd.C_alloc ?_ _) | (with_reducible refine Kd.C_drewN ?_ _) | (with_reducible refine Kd.C_drew ?_))); (case side2 => exact HC0_4.out); (case side3 => repeat (first | exact (Kd.C_below HR1_4.out (by repeat (first | (with_reducible first | exact HB.out | apply zb1 | apply zb2 | apply zb3 | refine zb4 ?_ GE147.out | refine zb4 ?_ GE148.out) | exact HB.out))) | (with_reducible refine Kd.C_alloc ?_ _) | (with_reducible refine Kd.C_drewN ?_ _) | (with_reducible refine Kd.C_drew ?_))); (case side4 => exact HC1_4.out); rintro e w' ⟨rfl, ⟨nd, rfl⟩⟩))
          go_ret
          exact ⟨by first | rfl | (simp [errW_none, errW_some] <;> rfl) | (simp [*, errW_none, errW_some] <;> rfl), by repeat (first | (with_reducible first | exact HB.out | apply zb1 | apply zb2 | apply zb3 | refine zb4 ?_ GE147.out | refine zb4 ?_ GE148.out) | exact HB.out)⟩
        · rw [if_neg c9] at H
          have c9b0 : (a0_0 == a1_0 && (a0_1 == a1_1)) = false := by simpa using c9
          (try (have c9b1 : decide (a0_0 = a1_0 && (a0_1 == a1_1)) = false := by simpa using c9))
          (try (have c9b2 : (a0_0 == a1_0 && (a0_1 == a1_1)) = false := by simpa using c9))
          (try (have c9b3 : ¬ (a0_0 = a1_0 && (a0_1 == a1_1)) := by simpa using c9))
          clear c9
          obtain rfl := Option.some.inj H
          go_enter Tryd.func17, Tryd.ntmps17
          go_wp2_with (first | ((with_reducible refine gate_dst (N := 2) rfl ?_); refine box_event ?hg (N := 2) ?hd (cs := #[.int .i64 a0_0, .int .i64 a0_1, .slice A0_2 l0_2.length c0_2, .slice A0_3 l0_3.length c0_3, .slice A0_4 l0_4.length c0_4, .bool a0_5]) (t := 29) ?hr ?_; (case hd => rfl); (case hg => rfl); (case hr => first | (go_simp; done) | (go_simp; rfl)); intro gb147 hg w15 hbox hb; have n0_ := zm (below_step (by repeat (first | (with_reducible first | exact HB.out | apply zb1 | apply zb2 | apply zb3) | exact HB.out)) hb); have n1_ := zm (hbox); have n2_ := zm ((by rw [hg]; exact (below_size (by repeat (first | (with_reducible first | exact HB.out | apply zb1 | apply zb2 | apply zb3) | exact HB.out))) : w.heap.size ≤ gb147)); have n3_ := zm ((by rw [hg]; exact (below_size (by repeat (first | (with_reducible first | exact HB.out | apply zb1 | apply zb2 | apply zb3) | exact HB.out))) : w.heap.size ≤ gb147)); clear HB; have HB := n0_; have BK147 := n1_; have GW147 := n2_; have GE147 := n3_; clear n0_ n1_ n2_ n3_; clear hb hbox hg) | ((with_reducible refine gate_dst (N := 3) rfl ?_); refine box_event ?hg (N := 3) ?hd (cs := #[.int .i64 a1_0, .int .i64 a1_1, .slice A1_2 l1_2.length c1_2, .slice A1_3 l1_3.length c1_3, .slice A1_4 l1_4.length c1_4, .bool a1_5]) (t := 29) ?hr ?_; (case hd => rfl); (case hg => rfl); (case hr => first | (go_simp; done) | (go_simp; rfl)); intro gb148 hg w16 hbox hb; have n0_ := zm (blk_below (g := gb147) (o := .cells #[.int .i64 a0_0, .int .i64 a0_1, .slice A0_2 l0_2.length c0_2, .slice A0_3 l0_3.length c0_3, .slice A0_4 l0_4.length c0_4, .bool a0_5] 29 (0, 0)) (by (with_reducible repeat first | refine zk1 ?_ _ | refine zk2 ?_ | refine zk3 ?_ _); exact BK147.out) hb); have n1_ := zm (below_step (by repeat (first | (with_reducible first | exact HB.out | apply zb1 | apply zb2 | apply zb3 | refine zb4 ?_ GE147.out) | exact HB.out)) hb); have n2_ := zm (hbox); have n3_ := zm ((by rw [hg]; exact (below_size (by repeat (first | (with_reducible first | exact HB.out | apply zb1 | apply zb2 | apply zb3 | refine zb4 ?_ GE147.out) | exact HB.out))) : w.heap.size ≤ gb148)); have n4_ := zm ((by rw [hg]; exact (below_size (by repeat (first | (with_reducible first | exact HB.out | apply zb1 | apply zb2 | apply zb3 | refine zb4 ?_ GE147.out) | exact HB.out))) : w.heap.size ≤ gb148)); have n5_ := zm ((by rw [hg]; exact Nat.ne_of_lt (blk_lt (g := gb147) (by (with_reducible repeat first | refine zk1 ?_ _ | refine zk2 ?_ | refine zk3 ?_ _); exact BK147.out)) : gb147 ≠ gb148)); have n6_ := zm ((by rw [hg]; exact Nat.ne_of_gt (blk_lt (g := gb147) (by (with_reducible repeat first | refine zk1 ?_ _ | refine zk2 ?_ | refine zk3 ?_ _); exact BK147.out)) : gb148 ≠ gb147)); clear BK147 HB; have BK147 := n0_; have HB := n1_; have BK148 := n2_; have GW148 := n3_; have GE148 := n4_; have NB147_148 := n5_; have NB148_147 := n6_; clear n0_ n1_ n2_ n3_ n4_ n5_ n6_; clear hb hbox hg; have hnb17 := NB147_148.out; have hnc17 := NB148_147.out; have hcz18_0 : w16.cell? ⟨gb147, 0, none⟩ = some (.int .i64 a0_0) := (blk_cell BK147.out 0).trans rfl; have hcz18_1 : w16.cell? ⟨gb147, 1, none⟩ = some (.int .i64 a0_1) := (blk_cell BK147.out 1).trans rfl; have hcz18_2 : w16.cell? ⟨gb147, 2, none⟩ = some (.slice A0_2 l0_2.length c0_2) := (blk_cell BK147.out 2).trans rfl; have hcz18_3 : w16.cell? ⟨gb147, 3, none⟩ = some (.slice A0_3 l0_3.length c0_3) := (blk_cell BK147.out 3).trans rfl; have hcz18_4 : w16.cell? ⟨gb147, 4, none⟩ = some (.slice A0_4 l0_4.length c0_4) := (blk_cell BK147.out 4).trans rfl; have hcz18_5 : w16.cell? ⟨gb147, 5, none⟩ = some (.bool a0_5) := (blk_cell BK147.out 5).trans rfl; have hfz18_0 := blk_frozen BK147.out 0; have hfz18_1 := blk_frozen BK147.out 1; have hfz18_2 := blk_frozen BK147.out 2; have hfz18_3 := blk_frozen BK147.out 3; have hfz18_4 := blk_frozen BK147.out 4; have hfz18_5 := blk_frozen BK147.out 5; have hcz19_0 : w16.cell? ⟨gb148, 0, none⟩ = some (.int .i64 a1_0) := (blk_cell BK148.out 0).trans rfl; have hcz19_1 : w16.cell? ⟨gb148, 1, none⟩ = some (.int .i64 a1_1) := (blk_cell BK148.out 1).trans rfl; have hcz19_2 : w16.cell? ⟨gb148, 2, none⟩ = some (.slice A1_2 l1_2.length c1_2) := (blk_cell BK148.out 2).trans rfl; have hcz19_3 : w16.cell? ⟨gb148, 3, none⟩ = some (.slice A1_3 l1_3.length c1_3) := (blk_cell BK148.out 3).trans rfl; have hcz19_4 : w16.cell? ⟨gb148, 4, none⟩ = some (.slice A1_4 l1_4.length c1_4) := (blk_cell BK148.out 4).trans rfl; have hcz19_5 : w16.cell? ⟨gb148, 5, none⟩ = some (.bool a1_5) := (blk_cell BK148.out 5).trans rfl; have hfz19_0 := blk_frozen BK148.out 0; have hfz19_1 := blk_frozen BK148.out 1; have hfz19_2 := blk_frozen BK148.out 2; have hfz19_3 := blk_frozen BK148.out 3; have hfz19_4 := blk_frozen BK148.out 4; have hfz19_5 := blk_frozen BK148.out 5) | ((with_reducible refine gate_callee (f := 31) rfl ?_); refine goesL_ (some 10) rfl rfl Tryd.func31 (by kernel_rfl) rfl #[.slice A0_2 l0_2.length c0_2, .slice A1_2 l1_2.length c1_2] rfl (by (try simp only [List.map_toArray, List.map_cons, List.map_nil]); first | done | rfl | (simp only [List.length_drop, List.length_take]; rfl)) ?_; (with_reducible refine (tallystickref04_Same.calls k _ _ l0_2 _ _ l1_2 true _ ?side1 ?side2 ?side3 ?side4 A3.out).mono ?_); (case side1 => repeat (first | exact (Kd.C_below HR0_2.out HB.out) | (with_reducible refine Kd.C_alloc ?_ _) | (with_reducible refine Kd.C_drewN ?_ _) | (with_reducible refine Kd.C_drew ?_))); (case side2 => exact HC0_2.out); (case side3 => repeat (first | exact (Kd.C_below HR1_2.out HB.out) | (with_reducible refine Kd.C_alloc ?_ _) | (with_reducible refine Kd.C_drewN ?_ _) | (with_reducible refine Kd.C_drew ?_))); (case side4 => exact HC1_2.out); rintro e w' ⟨rfl, ⟨nd, rfl⟩⟩; refine ⟨_, rfl, ?_⟩) | (go_at_call 31; (with_reducible refine (tallystickref04_Same.calls k _ _ l0_3 _ _ l1_3 true _ ?side1 ?side2 ?side3 ?side4 A5.out).mono ?_); (case side1 => repeat (first | exact (Kd.C_below HR0_3.out (by repeat (first | (with_reducible first | exact HB.out | apply zb1 | apply zb2 | apply zb3 | refine zb4 ?_ GE147.out | refine zb4 ?_ GE148.out) | exact HB.out))) | (with_reducible refine Kd.C_alloc ?_ _) | (with_reducible refine Kd.C_drewN ?_ _) | (with_reducible refine Kd.C_drew ?_))); (case side2 => exact HC0_3.out); (case side3 => repeat (first | exact (Kd.C_below HR1_3.out (by repeat (first | (with_reducible first | exact HB.out | apply zb1 | apply zb2 | apply zb3 | refine zb4 ?_ GE147.out | refine zb4 ?_ GE148.out) | exact HB.out))) | (with_reducible refine Kd.C_alloc ?_ _) | (with_reducible refine Kd.C_drewN ?_ _) | (with_reducible refine Kd.C_drew ?_))); (case side4 => exact HC1_3.out); rintro e w' ⟨rfl, ⟨nd, rfl⟩⟩) | (go_at_call 31; (with_reducible refine (tallystickref04_Same.calls k _ _ l0_4 _ _ l1_4 true _ ?side1 ?side2 ?side3 ?side4 A7.out).mono ?_); (case side1 => repeat (first | exact (Kd.C_below HR0_4.out (by repeat (first | (with_reducible first | exact HB.out | apply zb1 | apply zb2 | apply zb3 | refine zb4 ?_ GE147.out | refine zb4 ?_ GE148.out) | exact HB.out))) | (with_reducible refine Kd.C_alloc ?_ _) | (with_reducible refine Kd.C_drewN ?_ _) | (with_reducible refine Kd.C_drew ?_))); (case side2 => exact HC0_4.out); (case side3 => repeat (first | exact (Kd.C_below HR1_4.out (by repeat (first | (with_reducible first | exact HB.out | apply zb1 | apply zb2 | apply zb3 | refine zb4 ?_ GE147.out | refine zb4 ?_ GE148.out) | exact HB.out))) | (with_reducible refine Kd.C_alloc ?_ _) | (with_reducible refine Kd.C_drewN ?_ _) | (with_reducible refine Kd.C_drew ?_))); (case side4 => exact HC1_4.out); rintro e w' ⟨rfl, ⟨nd, rfl⟩⟩))
          go_ret
          exact ⟨by first | rfl | (simp [errW_none, errW_some] <;> rfl) | (simp [*, errW_none, errW_some] <;> rfl), by repeat (first | (with_reducible first | exact HB.out | apply zb1 | apply zb2 | apply zb3 | refine zb4 ?_ GE147.out | refine zb4 ?_ GE148.out) | exact HB.out)⟩
      · replace c8 := Bool.eq_false_iff.mpr c8
        subst c8
        have H1 : (some false) = some r := by rw [if_neg (show ¬ (false = true) by decide)] at H; exact H
        clear H
        have H := H1
        clear H1
        obtain rfl := Option.some.inj H
        go_enter Tryd.func17, Tryd.ntmps17
        go_wp2_with (first | ((with_reducible refine gate_dst (N := 2) rfl ?_); refine box_event ?hg (N := 2) ?hd (cs := #[.int .i64 a0_0, .int .i64 a0_1, .slice A0_2 l0_2.length c0_2, .slice A0_3 l0_3.length c0_3, .slice A0_4 l0_4.length c0_4, .bool a0_5]) (t := 29) ?hr ?_; (case hd => rfl); (case hg => rfl); (case hr => first | (go_simp; done) | (go_simp; rfl)); intro gb147 hg w20 hbox hb; have n0_ := zm (below_step (by repeat (first | (with_reducible first | exact HB.out | apply zb1 | apply zb2 | apply zb3) | exact HB.out)) hb); have n1_ := zm (hbox); have n2_ := zm ((by rw [hg]; exact (below_size (by repeat (first | (with_reducible first | exact HB.out | apply zb1 | apply zb2 | apply zb3) | exact HB.out))) : w.heap.size ≤ gb147)); have n3_ := zm ((by rw [hg]; exact (below_size (by repeat (first | (with_reducible first | exact HB.out | apply zb1 | apply zb2 | apply zb3) | exact HB.out))) : w.heap.size ≤ gb147)); clear HB; have HB := n0_; have BK147 := n1_; have GW147 := n2_; have GE147 := n3_; clear n0_ n1_ n2_ n3_; clear hb hbox hg) | ((with_reducible refine gate_dst (N := 3) rfl ?_); refine box_event ?hg (N := 3) ?hd (cs := #[.int .i64 a1_0, .int .i64 a1_1, .slice A1_2 l1_2.length c1_2, .slice A1_3 l1_3.length c1_3, .slice A1_4 l1_4.length c1_4, .bool a1_5]) (t := 29) ?hr ?_; (case hd => rfl); (case hg => rfl); (case hr => first | (go_simp; done) | (go_simp; rfl)); intro gb148 hg w21 hbox hb; have n0_ := zm (blk_below (g := gb147) (o := .cells #[.int .i64 a0_0, .int .i64 a0_1, .slice A0_2 l0_2.length c0_2, .slice A0_3 l0_3.length c0_3, .slice A0_4 l0_4.length c0_4, .bool a0_5] 29 (0, 0)) (by (with_reducible repeat first | refine zk1 ?_ _ | refine zk2 ?_ | refine zk3 ?_ _); exact BK147.out) hb); have n1_ := zm (below_step (by repeat (first | (with_reducible first | exact HB.out | apply zb1 | apply zb2 | apply zb3 | refine zb4 ?_ GE147.out) | exact HB.out)) hb); have n2_ := zm (hbox); have n3_ := zm ((by rw [hg]; exact (below_size (by repeat (first | (with_reducible first | exact HB.out | apply zb1 | apply zb2 | apply zb3 | refine zb4 ?_ GE147.out) | exact HB.out))) : w.heap.size ≤ gb148)); have n4_ := zm ((by rw [hg]; exact (below_size (by repeat (first | (with_reducible first | exact HB.out | apply zb1 | apply zb2 | apply zb3 | refine zb4 ?_ GE147.out) | exact HB.out))) : w.heap.size ≤ gb148)); have n5_ := zm ((by rw [hg]; exact Nat.ne_of_lt (blk_lt (g := gb147) (by (with_reducible repeat first | refine zk1 ?_ _ | refine zk2 ?_ | refine zk3 ?_ _); exact BK147.out)) : gb147 ≠ gb148)); have n6_ := zm ((by rw [hg]; exact Nat.ne_of_gt (blk_lt (g := gb147) (by (with_reducible repeat first | refine zk1 ?_ _ | refine zk2 ?_ | refine zk3 ?_ _); exact BK147.out)) : gb148 ≠ gb147)); clear BK147 HB; have BK147 := n0_; have HB := n1_; have BK148 := n2_; have GW148 := n3_; have GE148 := n4_; have NB147_148 := n5_; have NB148_147 := n6_; clear n0_ n1_ n2_ n3_ n4_ n5_ n6_; clear hb hbox hg; have hnb22 := NB147_148.out; have hnc22 := NB148_147.out; have hcz23_0 : w21.cell? ⟨gb147, 0, none⟩ = some (.int .i64 a0_0) := (blk_cell BK147.out 0).trans rfl; have hcz23_1 : w21.cell? ⟨gb147, 1, none⟩ = some (.int .i64 a0_1) := (blk_cell BK147.out 1).trans rfl; have hcz23_2 : w21.cell? ⟨gb147, 2, none⟩ = some (.slice A0_2 l0_2.length c0_2) := (blk_cell BK147.out 2).trans rfl; have hcz23_3 : w21.cell? ⟨gb147, 3, none⟩ = some (.slice A0_3 l0_3.length c0_3) := (blk_cell BK147.out 3).trans rfl; have hcz23_4 : w21.cell? ⟨gb147, 4, none⟩ = some (.slice A0_4 l0_4.length c0_4) := (blk_cell BK147.out 4).trans rfl; have hcz23_5 : w21.cell? ⟨gb147, 5, none⟩ = some (.bool a0_5) := (blk_cell BK147.out 5).trans rfl; have hfz23_0 := blk_frozen BK147.out 0; have hfz23_1 := blk_frozen BK147.out 1; have hfz23_2 := blk_frozen BK147.out 2; have hfz23_3 := blk_frozen BK147.out 3; have hfz23_4 := blk_frozen BK147.out 4; have hfz23_5 := blk_frozen BK147.out 5; have hcz24_0 : w21.cell? ⟨gb148, 0, none⟩ = some (.int .i64 a1_0) := (blk_cell BK148.out 0).trans rfl; have hcz24_1 : w21.cell? ⟨gb148, 1, none⟩ = some (.int .i64 a1_1) := (blk_cell BK148.out 1).trans rfl; have hcz24_2 : w21.cell? ⟨gb148, 2, none⟩ = some (.slice A1_2 l1_2.length c1_2) := (blk_cell BK148.out 2).trans rfl; have hcz24_3 : w21.cell? ⟨gb148, 3, none⟩ = some (.slice A1_3 l1_3.length c1_3) := (blk_cell BK148.out 3).trans rfl; have hcz24_4 : w21.cell? ⟨gb148, 4, none⟩ = some (.slice A1_4 l1_4.length c1_4) := (blk_cell BK148.out 4).trans rfl; have hcz24_5 : w21.cell? ⟨gb148, 5, none⟩ = some (.bool a1_5) := (blk_cell BK148.out 5).trans rfl; have hfz24_0 := blk_frozen BK148.out 0; have hfz24_1 := blk_frozen BK148.out 1; have hfz24_2 := blk_frozen BK148.out 2; have hfz24_3 := blk_frozen BK148.out 3; have hfz24_4 := blk_frozen BK148.out 4; have hfz24_5 := blk_frozen BK148.out 5) | ((with_reducible refine gate_callee (f := 31) rfl ?_); refine goesL_ (some 10) rfl rfl Tryd.func31 (by kernel_rfl) rfl #[.slice A0_2 l0_2.length c0_2, .slice A1_2 l1_2.length c1_2] rfl (by (try simp only [List.map_toArray, List.map_cons, List.map_nil]); first | done | rfl | (simp only [List.length_drop, List.length_take]; rfl)) ?_; (with_reducible refine (tallystickref04_Same.calls k _ _ l0_2 _ _ l1_2 true _ ?side1 ?side2 ?side3 ?side4 A3.out).mono ?_); (case side1 => repeat (first | exact (Kd.C_below HR0_2.out HB.out) | (with_reducible refine Kd.C_alloc ?_ _) | (with_reducible refine Kd.C_drewN ?_ _) | (with_reducible refine Kd.C_drew ?_))); (case side2 => exact HC0_2.out); (case side3 => repeat (first | exact (Kd.C_below HR1_2.out HB.out) | (with_reducible refine Kd.C_alloc ?_ _) | (with_reducible refine Kd.C_drewN ?_ _) | (with_reducible refine Kd.C_drew ?_))); (case side4 => exact HC1_2.out); rintro e w' ⟨rfl, ⟨nd, rfl⟩⟩; refine ⟨_, rfl, ?_⟩) | (go_at_call 31; (with_reducible refine (tallystickref04_Same.calls k _ _ l0_3 _ _ l1_3 true _ ?side1 ?side2 ?side3 ?side4 A5.out).mono ?_); (case side1 => repeat (first | exact (Kd.C_below HR0_3.out (by repeat (first | (with_reducible first | exact HB.out | apply zb1 | apply zb2 | apply zb3 | refine zb4 ?_ GE147.out | refine zb4 ?_ GE148.out) | exact HB.out))) | (with_reducible refine Kd.C_alloc ?_ _) | (with_reducible refine Kd.C_drewN ?_ _) | (with_reducible refine Kd.C_drew ?_))); (case side2 => exact HC0_3.out); (case side3 => repeat (first | exact (Kd.C_below HR1_3.out (by repeat (first | (with_reducible first | exact HB.out | apply zb1 | apply zb2 | apply zb3 | refine zb4 ?_ GE147.out | refine zb4 ?_ GE148.out) | exact HB.out))) | (with_reducible refine Kd.C_alloc ?_ _) | (with_reducible refine Kd.C_drewN ?_ _) | (with_reducible refine Kd.C_drew ?_))); (case side4 => exact HC1_3.out); rintro e w' ⟨rfl, ⟨nd, rfl⟩⟩) | (go_at_call 31; (with_reducible refine (tallystickref04_Same.calls k _ _ l0_4 _ _ l1_4 false _ ?side1 ?side2 ?side3 ?side4 A7.out).mono ?_); (case side1 => repeat (first | exact (Kd.C_below HR0_4.out (by repeat (first | (with_reducible first | exact HB.out | apply zb1 | apply zb2 | apply zb3 | refine zb4 ?_ GE147.out | refine zb4 ?_ GE148.out) | exact HB.out))) | (with_reducible refine Kd.C_alloc ?_ _) | (with_reducible refine Kd.C_drewN ?_ _) | (with_reducible refine Kd.C_drew ?_))); (case side2 => exact HC0_4.out); (case side3 => repeat (first | exact (Kd.C_below HR1_4.out (by repeat (first | (with_reducible first | exact HB.out | apply zb1 | apply zb2 | apply zb3 | refine zb4 ?_ GE147.out | refine zb4 ?_ GE148.out) | exact HB.out))) | (with_reducible refine Kd.C_alloc ?_ _) | (with_reducible refine Kd.C_drewN ?_ _) | (with_reducible refine Kd.C_drew ?_))); (case side4 => exact HC1_4.out); rintro e w' ⟨rfl, ⟨nd, rfl⟩⟩))
        go_ret
        exact ⟨by first | rfl | (simp [errW_none, errW_some] <;> rfl) | (simp [*, errW_none, errW_some] <;> rfl), by repeat (first | (with_reducible first | exact HB.out | apply zb1 | apply zb2 | apply zb3 | refine zb4 ?_ GE147.out | refine zb4 ?_ GE148.out) | exact HB.out)⟩
    · replace c6 := Bool.eq_false_iff.mpr c6
      subst c6
      have H1 : (some false) = some r := by rw [if_neg (show ¬ (false = true) by decide)] at H; exact H
      clear H
      have H := H1
      clear H1
      obtain rfl := Option.some.inj H
      go_enter Tryd.func17, Tryd.ntmps17
      go_wp2_with (first | ((with_reducible refine gate_dst (N := 2) rfl ?_); refine box_event ?hg (N := 2) ?hd (cs := #[.int .i64 a0_0, .int .i64 a0_1, .slice A0_2 l0_2.length c0_2, .slice A0_3 l0_3.length c0_3, .slice A0_4 l0_4.length c0_4, .bool a0_5]) (t := 29) ?hr ?_; (case hd => rfl); (case hg => rfl); (case hr => first | (go_simp; done) | (go_simp; rfl)); intro gb147 hg w25 hbox hb; have n0_ := zm (below_step (by repeat (first | (with_reducible first | exact HB.out | apply zb1 | apply zb2 | apply zb3) | exact HB.out)) hb); have n1_ := zm (hbox); have n2_ := zm ((by rw [hg]; exact (below_size (by repeat (first | (with_reducible first | exact HB.out | apply zb1 | apply zb2 | apply zb3) | exact HB.out))) : w.heap.size ≤ gb147)); have n3_ := zm ((by rw [hg]; exact (below_size (by repeat (first | (with_reducible first | exact HB.out | apply zb1 | apply zb2 | apply zb3) | exact HB.out))) : w.heap.size ≤ gb147)); clear HB; have HB := n0_; have BK147 := n1_; have GW147 := n2_; have GE147 := n3_; clear n0_ n1_ n2_ n3_; clear hb hbox hg) | ((with_reducible refine gate_dst (N := 3) rfl ?_); refine box_event ?hg (N := 3) ?hd (cs := #[.int .i64 a1_0, .int .i64 a1_1, .slice A1_2 l1_2.length c1_2, .slice A1_3 l1_3.length c1_3, .slice A1_4 l1_4.length c1_4, .bool a1_5]) (t := 29) ?hr ?_; (case hd => rfl); (case hg => rfl); (case hr => first | (go_simp; done) | (go_simp; rfl)); intro gb148 hg w26 hbox hb; have n0_ := zm (blk_below (g := gb147) (o := .cells #[.int .i64 a0_0, .int .i64 a0_1, .slice A0_2 l0_2.length c0_2, .slice A0_3 l0_3.length c0_3, .slice A0_4 l0_4.length c0_4, .bool a0_5] 29 (0, 0)) (by (with_reducible repeat first | refine zk1 ?_ _ | refine zk2 ?_ | refine zk3 ?_ _); exact BK147.out) hb); have n1_ := zm (below_step (by repeat (first | (with_reducible first | exact HB.out | apply zb1 | apply zb2 | apply zb3 | refine zb4 ?_ GE147.out) | exact HB.out)) hb); have n2_ := zm (hbox); have n3_ := zm ((by rw [hg]; exact (below_size (by repeat (first | (with_reducible first | exact HB.out | apply zb1 | apply zb2 | apply zb3 | refine zb4 ?_ GE147.out) | exact HB.out))) : w.heap.size ≤ gb148)); have n4_ := zm ((by rw [hg]; exact (below_size (by repeat (first | (with_reducible first | exact HB.out | apply zb1 | apply zb2 | apply zb3 | refine zb4 ?_ GE147.out) | exact HB.out))) : w.heap.size ≤ gb148)); have n5_ := zm ((by rw [hg]; exact Nat.ne_of_lt (blk_lt (g := gb147) (by (with_reducible repeat first | refine zk1 ?_ _ | refine zk2 ?_ | refine zk3 ?_ _); exact BK147.out)) : gb147 ≠ gb148)); have n6_ := zm ((by rw [hg]; exact Nat.ne_of_gt (blk_lt (g := gb147) (by (with_reducible repeat first | refine zk1 ?_ _ | refine zk2 ?_ | refine zk3 ?_ _); exact BK147.out)) : gb148 ≠ gb147)); clear BK147 HB; have BK147 := n0_; have HB := n1_; have BK148 := n2_; have GW148 := n3_; have GE148 := n4_; have NB147_148 := n5_; have NB148_147 := n6_; clear n0_ n1_ n2_ n3_ n4_ n5_ n6_; clear hb hbox hg; have hnb27 := NB147_148.out; have hnc27 := NB148_147.out; have hcz28_0 : w26.cell? ⟨gb147, 0, none⟩ = some (.int .i64 a0_0) := (blk_cell BK147.out 0).trans rfl; have hcz28_1 : w26.cell? ⟨gb147, 1, none⟩ = some (.int .i64 a0_1) := (blk_cell BK147.out 1).trans rfl; have hcz28_2 : w26.cell? ⟨gb147, 2, none⟩ = some (.slice A0_2 l0_2.length c0_2) := (blk_cell BK147.out 2).trans rfl; have hcz28_3 : w26.cell? ⟨gb147, 3, none⟩ = some (.slice A0_3 l0_3.length c0_3) := (blk_cell BK147.out 3).trans rfl; have hcz28_4 : w26.cell? ⟨gb147, 4, none⟩ = some (.slice A0_4 l0_4.length c0_4) := (blk_cell BK147.out 4).trans rfl; have hcz28_5 : w26.cell? ⟨gb147, 5, none⟩ = some (.bool a0_5) := (blk_cell BK147.out 5).trans rfl; have hfz28_0 := blk_frozen BK147.out 0; have hfz28_1 := blk_frozen BK147.out 1; have hfz28_2 := blk_frozen BK147.out 2; have hfz28_3 := blk_frozen BK147.out 3; have hfz28_4 := blk_frozen BK147.out 4; have hfz28_5 := blk_frozen BK147.out 5; have hcz29_0 : w26.cell? ⟨gb148, 0, none⟩ = some (.int .i64 a1_0) := (blk_cell BK148.out 0).trans rfl; have hcz29_1 : w26.cell? ⟨gb148, 1, none⟩ = some (.int .i64 a1_1) := (blk_cell BK148.out 1).trans rfl; have hcz29_2 : w26.cell? ⟨gb148, 2, none⟩ = some (.slice A1_2 l1_2.length c1_2) := (blk_cell BK148.out 2).trans rfl; have hcz29_3 : w26.cell? ⟨gb148, 3, none⟩ = some (.slice A1_3 l1_3.length c1_3) := (blk_cell BK148.out 3).trans rfl; have hcz29_4 : w26.cell? ⟨gb148, 4, none⟩ = some (.slice A1_4 l1_4.length c1_4) := (blk_cell BK148.out 4).trans rfl; have hcz29_5 : w26.cell? ⟨gb148, 5, none⟩ = some (.bool a1_5) := (blk_cell BK148.out 5).trans rfl; have hfz29_0 := blk_frozen BK148.out 0; have hfz29_1 := blk_frozen BK148.out 1; have hfz29_2 := blk_frozen BK148.out 2; have hfz29_3 := blk_frozen BK148.out 3; have hfz29_4 := blk_frozen BK148.out 4; have hfz29_5 := blk_frozen BK148.out 5) | ((with_reducible refine gate_callee (f := 31) rfl ?_); refine goesL_ (some 10) rfl rfl Tryd.func31 (by kernel_rfl) rfl #[.slice A0_2 l0_2.length c0_2, .slice A1_2 l1_2.length c1_2] rfl (by (try simp only [List.map_toArray, List.map_cons, List.map_nil]); first | done | rfl | (simp only [List.length_drop, List.length_take]; rfl)) ?_; (with_reducible refine (tallystickref04_Same.calls k _ _ l0_2 _ _ l1_2 true _ ?side1 ?side2 ?side3 ?side4 A3.out).mono ?_); (case side1 => repeat (first | exact (Kd.C_below HR0_2.out HB.out) | (with_reducible refine Kd.C_alloc ?_ _) | (with_reducible refine Kd.C_drewN ?_ _) | (with_reducible refine Kd.C_drew ?_))); (case side2 => exact HC0_2.out); (case side3 => repeat (first | exact (Kd.C_below HR1_2.out HB.out) | (with_reducible refine Kd.C_alloc ?_ _) | (with_reducible refine Kd.C_drewN ?_ _) | (with_reducible refine Kd.C_drew ?_))); (case side4 => exact HC1_2.out); rintro e w' ⟨rfl, ⟨nd, rfl⟩⟩; refine ⟨_, rfl, ?_⟩) | (go_at_call 31; (with_reducible refine (tallystickref04_Same.calls k _ _ l0_3 _ _ l1_3 false _ ?side1 ?side2 ?side3 ?side4 A5.out).mono ?_); (case side1 => repeat (first | exact (Kd.C_below HR0_3.out (by repeat (first | (with_reducible first | exact HB.out | apply zb1 | apply zb2 | apply zb3 | refine zb4 ?_ GE147.out | refine zb4 ?_ GE148.out) | exact HB.out))) | (with_reducible refine Kd.C_alloc ?_ _) | (with_reducible refine Kd.C_drewN ?_ _) | (with_reducible refine Kd.C_drew ?_))); (case side2 => exact HC0_3.out); (case side3 => repeat (first | exact (Kd.C_below HR1_3.out (by repeat (first | (with_reducible first | exact HB.out | apply zb1 | apply zb2 | apply zb3 | refine zb4 ?_ GE147.out | refine zb4 ?_ GE148.out) | exact HB.out))) | (with_reducible refine Kd.C_alloc ?_ _) | (with_reducible refine Kd.C_drewN ?_ _) | (with_reducible refine Kd.C_drew ?_))); (case side4 => exact HC1_3.out); rintro e w' ⟨rfl, ⟨nd, rfl⟩⟩))
      go_ret
      exact ⟨by first | rfl | (simp [errW_none, errW_some] <;> rfl) | (simp [*, errW_none, errW_some] <;> rfl), by repeat (first | (with_reducible first | exact HB.out | apply zb1 | apply zb2 | apply zb3 | refine zb4 ?_ GE147.out | refine zb4 ?_ GE148.out) | exact HB.out)⟩
  · replace c4 := Bool.eq_false_iff.mpr c4
    subst c4
    have H1 : (some false) = some r := by rw [if_neg (show ¬ (false = true) by decide)] at H; exact H
    clear H
    have H := H1
    clear H1
    obtain rfl := Option.some.inj H
    go_enter Tryd.func17, Tryd.ntmps17
    go_wp2_with (first | ((with_reducible refine gate_dst (N := 2) rfl ?_); refine box_event ?hg (N := 2) ?hd (cs := #[.int .i64 a0_0, .int .i64 a0_1, .slice A0_2 l0_2.length c0_2, .slice A0_3 l0_3.length c0_3, .slice A0_4 l0_4.length c0_4, .bool a0_5]) (t := 29) ?hr ?_; (case hd => rfl); (case hg => rfl); (case hr => first | (go_simp; done) | (go_simp; rfl)); intro gb147 hg w30 hbox hb; have n0_ := zm (below_step (by repeat (first | (with_reducible first | exact HB.out | apply zb1 | apply zb2 | apply zb3) | exact HB.out)) hb); have n1_ := zm (hbox); have n2_ := zm ((by rw [hg]; exact (below_size (by repeat (first | (with_reducible first | exact HB.out | apply zb1 | apply zb2 | apply zb3) | exact HB.out))) : w.heap.size ≤ gb147)); have n3_ := zm ((by rw [hg]; exact (below_size (by repeat (first | (with_reducible first | exact HB.out | apply zb1 | apply zb2 | apply zb3) | exact HB.out))) : w.heap.size ≤ gb147)); clear HB; have HB := n0_; have BK147 := n1_; have GW147 := n2_; have GE147 := n3_; clear n0_ n1_ n2_ n3_; clear hb hbox hg) | ((with_reducible refine gate_dst (N := 3) rfl ?_); refine box_event ?hg (N := 3) ?hd (cs := #[.int .i64 a1_0, .int .i64 a1_1, .slice A1_2 l1_2.length c1_2, .slice A1_3 l1_3.length c1_3, .slice A1_4 l1_4.length c1_4, .bool a1_5]) (t := 29) ?hr ?_; (case hd => rfl); (case hg => rfl); (case hr => first | (go_simp; done) | (go_simp; rfl)); intro gb148 hg w31 hbox hb; have n0_ := zm (blk_below (g := gb147) (o := .cells #[.int .i64 a0_0, .int .i64 a0_1, .slice A0_2 l0_2.length c0_2, .slice A0_3 l0_3.length c0_3, .slice A0_4 l0_4.length c0_4, .bool a0_5] 29 (0, 0)) (by (with_reducible repeat first | refine zk1 ?_ _ | refine zk2 ?_ | refine zk3 ?_ _); exact BK147.out) hb); have n1_ := zm (below_step (by repeat (first | (with_reducible first | exact HB.out | apply zb1 | apply zb2 | apply zb3 | refine zb4 ?_ GE147.out) | exact HB.out)) hb); have n2_ := zm (hbox); have n3_ := zm ((by rw [hg]; exact (below_size (by repeat (first | (with_reducible first | exact HB.out | apply zb1 | apply zb2 | apply zb3 | refine zb4 ?_ GE147.out) | exact HB.out))) : w.heap.size ≤ gb148)); have n4_ := zm ((by rw [hg]; exact (below_size (by repeat (first | (with_reducible first | exact HB.out | apply zb1 | apply zb2 | apply zb3 | refine zb4 ?_ GE147.out) | exact HB.out))) : w.heap.size ≤ gb148)); have n5_ := zm ((by rw [hg]; exact Nat.ne_of_lt (blk_lt (g := gb147) (by (with_reducible repeat first | refine zk1 ?_ _ | refine zk2 ?_ | refine zk3 ?_ _); exact BK147.out)) : gb147 ≠ gb148)); have n6_ := zm ((by rw [hg]; exact Nat.ne_of_gt (blk_lt (g := gb147) (by (with_reducible repeat first | refine zk1 ?_ _ | refine zk2 ?_ | refine zk3 ?_ _); exact BK147.out)) : gb148 ≠ gb147)); clear BK147 HB; have BK147 := n0_; have HB := n1_; have BK148 := n2_; have GW148 := n3_; have GE148 := n4_; have NB147_148 := n5_; have NB148_147 := n6_; clear n0_ n1_ n2_ n3_ n4_ n5_ n6_; clear hb hbox hg; have hnb32 := NB147_148.out; have hnc32 := NB148_147.out; have hcz33_0 : w31.cell? ⟨gb147, 0, none⟩ = some (.int .i64 a0_0) := (blk_cell BK147.out 0).trans rfl; have hcz33_1 : w31.cell? ⟨gb147, 1, none⟩ = some (.int .i64 a0_1) := (blk_cell BK147.out 1).trans rfl; have hcz33_2 : w31.cell? ⟨gb147, 2, none⟩ = some (.slice A0_2 l0_2.length c0_2) := (blk_cell BK147.out 2).trans rfl; have hcz33_3 : w31.cell? ⟨gb147, 3, none⟩ = some (.slice A0_3 l0_3.length c0_3) := (blk_cell BK147.out 3).trans rfl; have hcz33_4 : w31.cell? ⟨gb147, 4, none⟩ = some (.slice A0_4 l0_4.length c0_4) := (blk_cell BK147.out 4).trans rfl; have hcz33_5 : w31.cell? ⟨gb147, 5, none⟩ = some (.bool a0_5) := (blk_cell BK147.out 5).trans rfl; have hfz33_0 := blk_frozen BK147.out 0; have hfz33_1 := blk_frozen BK147.out 1; have hfz33_2 := blk_frozen BK147.out 2; have hfz33_3 := blk_frozen BK147.out 3; have hfz33_4 := blk_frozen BK147.out 4; have hfz33_5 := blk_frozen BK147.out 5; have hcz34_0 : w31.cell? ⟨gb148, 0, none⟩ = some (.int .i64 a1_0) := (blk_cell BK148.out 0).trans rfl; have hcz34_1 : w31.cell? ⟨gb148, 1, none⟩ = some (.int .i64 a1_1) := (blk_cell BK148.out 1).trans rfl; have hcz34_2 : w31.cell? ⟨gb148, 2, none⟩ = some (.slice A1_2 l1_2.length c1_2) := (blk_cell BK148.out 2).trans rfl; have hcz34_3 : w31.cell? ⟨gb148, 3, none⟩ = some (.slice A1_3 l1_3.length c1_3) := (blk_cell BK148.out 3).trans rfl; have hcz34_4 : w31.cell? ⟨gb148, 4, none⟩ = some (.slice A1_4 l1_4.length c1_4) := (blk_cell BK148.out 4).trans rfl; have hcz34_5 : w31.cell? ⟨gb148, 5, none⟩ = some (.bool a1_5) := (blk_cell BK148.out 5).trans rfl; have hfz34_0 := blk_frozen BK148.out 0; have hfz34_1 := blk_frozen BK148.out 1; have hfz34_2 := blk_frozen BK148.out 2; have hfz34_3 := blk_frozen BK148.out 3; have hfz34_4 := blk_frozen BK148.out 4; have hfz34_5 := blk_frozen BK148.out 5) | ((with_reducible refine gate_callee (f := 31) rfl ?_); refine goesL_ (some 10) rfl rfl Tryd.func31 (by kernel_rfl) rfl #[.slice A0_2 l0_2.length c0_2, .slice A1_2 l1_2.length c1_2] rfl (by (try simp only [List.map_toArray, List.map_cons, List.map_nil]); first | done | rfl | (simp only [List.length_drop, List.length_take]; rfl)) ?_; (with_reducible refine (tallystickref04_Same.calls k _ _ l0_2 _ _ l1_2 false _ ?side1 ?side2 ?side3 ?side4 A3.out).mono ?_); (case side1 => repeat (first | exact (Kd.C_below HR0_2.out HB.out) | (with_reducible refine Kd.C_alloc ?_ _) | (with_reducible refine Kd.C_drewN ?_ _) | (with_reducible refine Kd.C_drew ?_))); (case side2 => exact HC0_2.out); (case side3 => repeat (first | exact (Kd.C_below HR1_2.out HB.out) | (with_reducible refine Kd.C_alloc ?_ _) | (with_reducible refine Kd.C_drewN ?_ _) | (with_reducible refine Kd.C_drew ?_))); (case side4 => exact HC1_2.out); rintro e w' ⟨rfl, ⟨nd, rfl⟩⟩; refine ⟨_, rfl, ?_⟩))
    go_ret
    exact ⟨by first | rfl | (simp [errW_none, errW_some] <;> rfl) | (simp [*, errW_none, errW_some] <;> rfl), by repeat (first | (with_reducible first | exact HB.out | apply zb1 | apply zb2 | apply zb3 | refine zb4 ?_ GE147.out | refine zb4 ?_ GE148.out) | exact HB.out)⟩

/-! ### tallystickref14_Sum: function 19 -/
mutual
def tallystickref14_Sum.l0 : Nat → ByteArray → Int → Int → Option (Int)
  | 0, _, _, _ => none
  | k + 1, x0, x3, x4 => if x4 < (x0.size : Int) then (tallystickref14_Sum.l1 k x0 x3 x4 0) else (some ((4294967295 - x3) % 4294967296))
def tallystickref14_Sum.l1 : Nat → ByteArray → Int → Int → Int → Option (Int)
  | 0, _, _, _, _ => none
  | k + 1, x0, x3, x4, x5 => if x5 < 8 then (if 0 ≤ x4 then (if x4 < (x0.size : Int) then (if 0 ≤ (IntKind.u64.wrap (x5)) then (if (Go.bits .and .u32 x3 1) = (Go.bits .and .u32 ((shr .u8 (bt x0 x4) (IntKind.u64.wrap (x5))) % 4294967296) 1) then (tallystickref14_Sum.l1 k x0 ((Int.tdiv x3 2) % 4294967296) x4 (wrap64 (x5 + 1))) else (tallystickref14_Sum.l1 k x0 (Go.bits .xor .u32 ((Int.tdiv x3 2) % 4294967296) 3988292384) x4 (wrap64 (x5 + 1)))) else (none)) else (none)) else (none)) else (tallystickref14_Sum.l0 k x0 x3 (wrap64 (x4 + 1)))
end
def tallystickref14_Sum.f (k : Nat) (a0 : ByteArray) : Option (Int) := tallystickref14_Sum.l0 k a0 4294967295 0
theorem tallystickref14_Sum.mono_l : ∀ k, (∀ y0 y1 y2, LeO (tallystickref14_Sum.l0 k y0 y1 y2) (tallystickref14_Sum.l0 (k + 1) y0 y1 y2)) ∧ (∀ y0 y1 y2 y3, LeO (tallystickref14_Sum.l1 k y0 y1 y2 y3) (tallystickref14_Sum.l1 (k + 1) y0 y1 y2 y3))
  | 0 => ⟨fun _ _ _ r h => by simp [tallystickref14_Sum.l0] at h, fun _ _ _ _ r h => by simp [tallystickref14_Sum.l1] at h⟩
  | k + 1 => by
    obtain ⟨ih0, ih1⟩ := tallystickref14_Sum.mono_l k
    refine ⟨?_, ?_⟩
    · intro y0 y1 y2
      unfold tallystickref14_Sum.l0
      repeat' first
      | (with_reducible exact ih0 _ _ _)
      | (with_reducible exact ih1 _ _ _ _)
      | (with_reducible exact LeO.refl _)
      | (with_reducible exact LeO.none _)
      | (with_reducible refine LeO.ite ?_ ?_)
      | (with_reducible refine LeO.bind ?_ (fun _ => ?_))
      | exact ih0 _ _ _
      | exact ih1 _ _ _ _
      | exact LeO.none _
      | refine LeO.ite ?_ ?_
      | refine LeO.bind ?_ (fun _ => ?_)
    · intro y0 y1 y2 y3
      unfold tallystickref14_Sum.l1
      repeat' first
      | (with_reducible exact ih0 _ _ _)
      | (with_reducible exact ih1 _ _ _ _)
      | (with_reducible exact LeO.refl _)
      | (with_reducible exact LeO.none _)
      | (with_reducible refine LeO.ite ?_ ?_)
      | (with_reducible refine LeO.bind ?_ (fun _ => ?_))
      | exact ih0 _ _ _
      | exact ih1 _ _ _ _
      | exact LeO.none _
      | refine LeO.ite ?_ ?_
      | refine LeO.bind ?_ (fun _ => ?_)
theorem tallystickref14_Sum.mono : ∀ a0 k, LeO (tallystickref14_Sum.f k a0) (tallystickref14_Sum.f (k + 1) a0) := by
  intro a0 k
  obtain ⟨ih0, ih1⟩ := tallystickref14_Sum.mono_l k
  unfold tallystickref14_Sum.f
  repeat' first
      | (with_reducible exact ih0 _ _ _)
      | (with_reducible exact ih1 _ _ _ _)
      | (with_reducible exact LeO.refl _)
      | (with_reducible exact LeO.none _)
      | (with_reducible refine LeO.ite ?_ ?_)
      | (with_reducible refine LeO.bind ?_ (fun _ => ?_))
      | exact ih0 _ _ _
      | exact ih1 _ _ _ _
      | exact LeO.none _
      | refine LeO.ite ?_ ?_
      | refine LeO.bind ?_ (fun _ => ?_)
set_option maxHeartbeats 8000000 in
set_option maxRecDepth 100000 in
theorem tallystickref14_Sum.calls (k : Nat) (a0 : ByteArray) (r : Int) (w : World) (h : tallystickref14_Sum.f k a0 = some r) :
    Calls Tryd.prog 19 #[.string a0] w fun e w' => e = .returned (.int .u32 r) ∧ Drawn0 w w' := by
  have H : (tallystickref14_Sum.l0 k a0 4294967295 0) = some r := h
  clear h
  have H' := zm H
  clear H
  go_enter Tryd.func19, Tryd.ntmps19
  go_wp2
  go_loopg [3, 4] k (fun kq v3 v4 w' => ∃ (x3_1 : Int) (x4_1 : Int), v3 = .int .u32 x3_1 ∧ v4 = .int .i64 x4_1 ∧ Aside0 (tallystickref14_Sum.l0 kq a0 x3_1 x4_1 = some r) ∧ Aside0 (kq ≤ k) ∧ Drawn0 w w')
  case atStart => exact ⟨(4294967295), (0), (by first | rfl | (simp; done) | (simp [*]; done)), (by first | rfl | (simp; done) | (simp [*]; done)), H', ⟨Nat.le_refl _⟩, by repeat (first | exact Drawn0.refl _ | apply Drawn0.step)⟩
  case round =>
    clear H'
    try clear c1
    obtain ⟨x3_1, x4_1, rfl, rfl, HA, HK1, ⟨m1, rfl⟩⟩ := hrel
    cases gk with
    | zero => exact absurd HA.out (by simp [tallystickref14_Sum.l0])
    | succ k1 =>
      have H := HA.out
      clear HA
      simp only [tallystickref14_Sum.l0] at H
      by_cases c2 : x4_1 < (a0.size : Int)
      · rw [if_pos c2] at H
        have c2b0 : decide (x4_1 < (a0.size : Int)) = true := decide_eq_true c2
        clear c2
        have H' := zm H
        clear H
        go_wp2
        go_loopg [3, 5] k1 (fun kq v3 v5 w' => ∃ (x3_2 : Int) (x5_2 : Int), v3 = .int .u32 x3_2 ∧ v5 = .int .i64 x5_2 ∧ Aside0 (tallystickref14_Sum.l1 kq a0 x3_2 x4_1 x5_2 = some r) ∧ Aside0 (kq ≤ k1) ∧ Drawn0 w w')
        case atStart => exact ⟨(x3_1), (0), (by first | rfl | (simp; done) | (simp [*]; done)), (by first | rfl | (simp; done) | (simp [*]; done)), H', ⟨Nat.le_refl _⟩, by repeat (first | exact Drawn0.refl _ | apply Drawn0.step)⟩
        case round =>
          clear H'
          try clear c1
          try clear c2
          try clear c2b0
          try clear p2
          obtain ⟨x3_2, x5_2, rfl, rfl, HA, HK2, ⟨m2, rfl⟩⟩ := hrel
          cases gk with
          | zero => exact absurd HA.out (by simp [tallystickref14_Sum.l1])
          | succ k2 =>
            have H := HA.out
            clear HA
            simp only [tallystickref14_Sum.l1] at H
            by_cases c3 : x5_2 < 8
            · rw [if_pos c3] at H
              have c3b0 : decide (x5_2 < 8) = true := decide_eq_true c3
              clear c3
              by_cases c4 : 0 ≤ x4_1
              · rw [if_pos c4] at H
                have c4b0 : decide (0 ≤ x4_1) = true := decide_eq_true c4
                clear c4
                by_cases c5 : x4_1 < (a0.size : Int)
                · rw [if_pos c5] at H
                  have c5b0 : decide (x4_1 < (a0.size : Int)) = true := decide_eq_true c5
                  clear c5
                  obtain ⟨ji7, hji7⟩ : ∃ j_ : Int, (IntKind.u64.wrap (x5_2)) = j_ := ⟨_, rfl⟩
                  replace H : (if 0 ≤ (ji7) then (if (Go.bits .and .u32 x3_2 1) = (Go.bits .and .u32 ((shr .u8 (bt a0 x4_1) (ji7)) % 4294967296) 1) then (tallystickref14_Sum.l1 k2 a0 ((Int.tdiv x3_2 2) % 4294967296) x4_1 (wrap64 (x5_2 + 1))) else (tallystickref14_Sum.l1 k2 a0 (Go.bits .xor .u32 ((Int.tdiv x3_2 2) % 4294967296) 3988292384) x4_1 (wrap64 (x5_2 + 1)))) else (none)) = some r := by first | (rw [hji7] at H; exact H) | (simp only [hji7] at H ⊢; exact H)
                  by_cases c8 : 0 ≤ (ji7)
                  · rw [if_pos c8] at H
                    have c8b0 := eq_true c8
                    have c8b1 : decide (0 ≤ (ji7)) = true := decide_eq_true c8
                    clear c8
                    obtain ⟨ji9, hji9⟩ : ∃ j_ : Int, (shr .u8 (bt a0 x4_1) (ji7)) = j_ := ⟨_, rfl⟩
                    replace H : (if (Go.bits .and .u32 x3_2 1) = (Go.bits .and .u32 ((ji9) % 4294967296) 1) then (tallystickref14_Sum.l1 k2 a0 ((Int.tdiv x3_2 2) % 4294967296) x4_1 (wrap64 (x5_2 + 1))) else (tallystickref14_Sum.l1 k2 a0 (Go.bits .xor .u32 ((Int.tdiv x3_2 2) % 4294967296) 3988292384) x4_1 (wrap64 (x5_2 + 1)))) = some r := by first | (rw [hji9] at H; exact H) | (simp only [hji9] at H ⊢; exact H)
                    have hji9_ : ((bt a0 x4_1) / 2 ^ min (ji7).toNat 8) = ji9 := hji9
                    have hji9z : (ji7) ≤ 8 → ((bt a0 x4_1) / 2 ^ (ji7).toNat) = ji9 := shr_small hji9
                    by_cases c10 : (Go.bits .and .u32 x3_2 1) = (Go.bits .and .u32 ((ji9) % 4294967296) 1)
                    · rw [if_pos c10] at H
                      have c10b0 : ((Go.bits .and .u32 x3_2 1) == (Go.bits .and .u32 ((ji9) % 4294967296) 1)) = true := beq_iff_eq.mpr c10
                      have c10b1 : ((Go.bits .and .u32 x3_2 1) != (Go.bits .and .u32 ((ji9) % 4294967296) 1)) = false := bne_eq_false_iff_eq.mpr c10
                      clear c10
                      have H' := zm H
                      clear H
                      have p6 : 0 ≤ (x4_1 : Int) := of_decide_eq_true (by first | (with_reducible assumption) | assumption)
                      have q6 : x4_1 < (a0.size : Int) := of_decide_eq_true (by first | (with_reducible assumption) | assumption)
                      have hx6 := bt_at a0 x4_1
                      replace p6 := eq_true p6
                      replace q6 := eq_true q6
                      go_wp2
                      go_roundg k2
                      case measure => have := HK1.out; have := HK2.out; omega
                      case rel => exact ⟨((Int.tdiv x3_2 2) % 4294967296), (wrap64 (x5_2 + 1)), (by first | rfl | (simp; done) | (simp [*]; done)), (by first | rfl | (simp; done) | (simp [*]; done)), H', ⟨by have := HK1.out; have := HK2.out; omega⟩, by repeat (first | exact Drawn0.refl _ | apply Drawn0.step)⟩
                    · rw [if_neg c10] at H
                      have c10b0 : ((Go.bits .and .u32 x3_2 1) == (Go.bits .and .u32 ((ji9) % 4294967296) 1)) = false := beq_eq_false_iff_ne.mpr c10
                      have c10b1 : ((Go.bits .and .u32 x3_2 1) != (Go.bits .and .u32 ((ji9) % 4294967296) 1)) = true := bne_iff_ne.mpr c10
                      have H' := zm H
                      clear H
                      have p6 : 0 ≤ (x4_1 : Int) := of_decide_eq_true (by first | (with_reducible assumption) | assumption)
                      have q6 : x4_1 < (a0.size : Int) := of_decide_eq_true (by first | (with_reducible assumption) | assumption)
                      have hx6 := bt_at a0 x4_1
                      replace p6 := eq_true p6
                      replace q6 := eq_true q6
                      go_wp2
                      go_roundg k2
                      case measure => have := HK1.out; have := HK2.out; omega
                      case rel => exact ⟨(Go.bits .xor .u32 ((Int.tdiv x3_2 2) % 4294967296) 3988292384), (wrap64 (x5_2 + 1)), (by first | rfl | (simp; done) | (simp [*]; done)), (by first | rfl | (simp; done) | (simp [*]; done)), H', ⟨by have := HK1.out; have := HK2.out; omega⟩, by repeat (first | exact Drawn0.refl _ | apply Drawn0.step)⟩
                  · rw [if_neg c8] at H
                    exact absurd H (by simp)
                · rw [if_neg c5] at H
                  exact absurd H (by simp)
              · rw [if_neg c4] at H
                exact absurd H (by simp)
            · rw [if_neg c3] at H
              have c3b0 : decide (x5_2 < 8) = false := decide_eq_false c3
              clear c3
              have H' := zm H
              clear H
              go_wp2
              go_roundg k2
              case measure => have := HK1.out; have := HK2.out; omega
              case rel => exact ⟨(x3_2), (wrap64 (x4_1 + 1)), (by first | rfl | (simp; done) | (simp [*]; done)), (by first | rfl | (simp; done) | (simp [*]; done)), H', ⟨by have := HK1.out; have := HK2.out; omega⟩, by repeat (first | exact Drawn0.refl _ | apply Drawn0.step)⟩
      · rw [if_neg c2] at H
        have c2b0 : decide (x4_1 < (a0.size : Int)) = false := decide_eq_false c2
        clear c2
        obtain rfl := Option.some.inj H
        go_wp2
        go_ret
        exact ⟨by first | rfl | (simp; done) | (simp [*]; done), by repeat (first | exact Drawn0.refl _ | apply Drawn0.step)⟩

/-! ### tallystickref14_small: function 43 -/
def tallystickref14_small.f (a0 : Int) : Option (Bool) := if a0 ≥ 0 then (some (decide (a0 ≤ 2147483647))) else (some false)
set_option maxHeartbeats 8000000 in
set_option maxRecDepth 100000 in
theorem tallystickref14_small.calls (a0 : Int) (r : Bool) (w : World) (h : tallystickref14_small.f a0 = some r) :
    Calls Tryd.prog 43 #[.int .i64 a0] w fun e w' => e = .returned (.bool r) ∧ Drawn0 w w' := by
  have H : (if a0 ≥ 0 then (some (decide (a0 ≤ 2147483647))) else (some false)) = some r := h
  clear h
  by_cases c2 : a0 ≥ 0
  · rw [if_pos c2] at H
    have c2b0 : decide (0 ≤ a0) = true := decide_eq_true c2
    clear c2
    obtain rfl := Option.some.inj H
    go_enter Tryd.func43, Tryd.ntmps43
    go_wp2
    go_ret
    exact ⟨by first | rfl | (simp; done) | (simp [*]; done), by repeat (first | exact Drawn0.refl _ | apply Drawn0.step)⟩
  · rw [if_neg c2] at H
    have c2b0 : decide (0 ≤ a0) = false := decide_eq_false c2
    clear c2
    obtain rfl := Option.some.inj H
    go_enter Tryd.func43, Tryd.ntmps43
    go_wp2
    go_ret
    exact ⟨by first | rfl | (simp; done) | (simp [*]; done), by repeat (first | exact Drawn0.refl _ | apply Drawn0.step)⟩

/-! ### tallystickref14_ordered: function 44 -/
def tallystickref14_ordered.f (l0 : List Int) : Option (Bool) := if (l0.length : Int) ≤ 4096 then (if (l0.length : Int) = 0 then (some true) else (if 0 ≤ (wrap64 ((l0.length : Int) - 1)) then (if (wrap64 ((l0.length : Int) - 1)) < (l0.length : Int) then (some ((rd l0 (wrap64 ((l0.length : Int) - 1))) != 0)) else (none)) else (none))) else (some false)
set_option maxHeartbeats 8000000 in
set_option maxRecDepth 100000 in
theorem tallystickref14_ordered.calls (A0 : Option Addr) (c0 : Nat) (l0 : List Int) (r : Bool) (w : World) (hr0 : Kd.C (Kd.int .u64) w A0 l0.length l0) (hc0 : l0.length ≤ c0) (h : tallystickref14_ordered.f l0 = some r) :
    Calls Tryd.prog 44 #[.slice A0 l0.length c0] w fun e w' => e = .returned (.bool r) ∧ Drawn0 w w' := by
  have HR0 := zm hr0
  have HC0 := zm hc0
  clear hr0 hc0
  have H : (if (l0.length : Int) ≤ 4096 then (if (l0.length : Int) = 0 then (some true) else (if 0 ≤ (wrap64 ((l0.length : Int) - 1)) then (if (wrap64 ((l0.length : Int) - 1)) < (l0.length : Int) then (some ((rd l0 (wrap64 ((l0.length : Int) - 1))) != 0)) else (none)) else (none))) else (some false)) = some r := h
  clear h
  by_cases c2 : (l0.length : Int) ≤ 4096
  · rw [if_pos c2] at H
    have c2b0 : decide ((l0.length : Int) ≤ 4096) = true := decide_eq_true c2
    have c2b1 : decide (l0.length ≤ 4096) = true := decide_eq_true (by omega)
    clear c2
    by_cases c3 : (l0.length : Int) = 0
    · rw [if_pos c3] at H
      have c3b0 : ((l0.length : Int) == 0) = true := beq_iff_eq.mpr c3
      have c3b1 : ((l0.length : Int) != 0) = false := bne_eq_false_iff_eq.mpr c3
      clear c3
      obtain rfl := Option.some.inj H
      go_enter Tryd.func44, Tryd.ntmps44
      go_wp2
      go_ret
      exact ⟨by first | rfl | (simp; done) | (simp [*]; done), by repeat (first | exact Drawn0.refl _ | apply Drawn0.step)⟩
    · rw [if_neg c3] at H
      have c3b0 : ((l0.length : Int) == 0) = false := beq_eq_false_iff_ne.mpr c3
      have c3b1 : ((l0.length : Int) != 0) = true := bne_iff_ne.mpr c3
      have c3b2 : ¬ (l0 = []) := fun h_ => c3 (by rw [h_]; rfl)
      obtain ⟨ji4, hji4⟩ : ∃ j_ : Int, (wrap64 ((l0.length : Int) - 1)) = j_ := ⟨_, rfl⟩
      replace H : (if 0 ≤ (ji4) then (if (ji4) < (l0.length : Int) then (some ((rd l0 (ji4)) != 0)) else (none)) else (none)) = some r := by first | (rw [hji4] at H; exact H) | (simp only [hji4] at H ⊢; exact H)
      have hji4w : (IntKind.i64.wrap ((l0.length : Int) - 1)) = ji4 := (i64_w _).trans hji4
      by_cases c5 : 0 ≤ (ji4)
      · rw [if_pos c5] at H
        have c5b0 : decide (0 ≤ (ji4)) = true := decide_eq_true c5
        clear c5
        by_cases c6 : (ji4) < (l0.length : Int)
        · rw [if_pos c6] at H
          have c6b0 : decide ((ji4) < (l0.length : Int)) = true := decide_eq_true c6
          clear c6
          obtain rfl := Option.some.inj H
          have p152 : 0 ≤ ((ji4) : Int) := of_decide_eq_true (by first | (with_reducible assumption) | assumption)
          have q152 : (ji4) < (l0.length : Int) := of_decide_eq_true (by first | (with_reducible assumption) | assumption)
          obtain ⟨ad152, e152, hx152_0⟩ := Kd.at_int HR0.out (ji4) p152 q152
          cases e152
          replace p152 := eq_true p152
          replace q152 := eq_true q152
          go_enter Tryd.func44, Tryd.ntmps44
          go_wp2
          go_ret
          exact ⟨by first | rfl | (simp; done) | (simp only [← hji4] <;> (first | rfl | simp)) | (simp [*]; done), by repeat (first | exact Drawn0.refl _ | apply Drawn0.step)⟩
        · rw [if_neg c6] at H
          exact absurd H (by simp)
      · rw [if_neg c5] at H
        exact absurd H (by simp)
  · rw [if_neg c2] at H
    have c2b0 : decide ((l0.length : Int) ≤ 4096) = false := decide_eq_false c2
    have c2b1 : decide (l0.length ≤ 4096) = false := decide_eq_false (by omega)
    clear c2
    obtain rfl := Option.some.inj H
    go_enter Tryd.func44, Tryd.ntmps44
    go_wp2
    go_ret
    exact ⟨by first | rfl | (simp; done) | (simp [*]; done), by repeat (first | exact Drawn0.refl _ | apply Drawn0.step)⟩

end Go.Proofs.YtanjahakoadecaaDoor.Pc
