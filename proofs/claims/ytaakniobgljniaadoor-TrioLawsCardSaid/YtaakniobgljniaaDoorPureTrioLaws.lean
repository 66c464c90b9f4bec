/- TrioLaws: a product hangs on no order; that with a 1 is the row: for all rows of 300 places at most. -/
import Derived.Test.YtaakniobgljniaaDoorPTrioD
import Derived.Test.YtaakniobgljniaaDoorPb4
namespace Go.Proofs.YtaakniobgljniaaDoor.Pure
open Go.RowKit Go.Proofs.YtaakniobgljniaaDoor.Pa Go.Proofs.YtaakniobgljniaaDoor.Pb Go.Proofs.YtaakniobgljniaaDoorW.PrintWords Go.Proofs.YtaakniobgljniaaDoorW.PrintLast Go.Proofs.YtaakniobgljniaaDoor.Hand Go.Proofs.YtaakniobgljniaaDoor.Num
set_option linter.unusedVariables false
set_option linter.unusedSimpArgs false

theorem laws_loop {a : List Int} (ia : InB W a) (ha : a.any wideV = false) (hla : a.length ≤ 1024) : ∀ d i, i + d = a.length → Ev (fun k => tallysticklaw09_TrioLaws.l0 k a true (prow a.length (cS a [1] a.length)) (i : Int)) true
  | 0, i, h => Ev.succ (Ev.congr (G := fun _ => some true) (fun k => by rw [tallysticklaw09_TrioLaws.l0, if_neg (by omega), if_pos rfl, prow_length]; simp) (Ev.const rfl))
  | d + 1, i, h => by
    refine Ev.succ (Ev.congr (G := fun k => tallysticklaw09_TrioLaws.l0 k a true (prow a.length (cS a [1] a.length)) ((i + 1 : Nat) : Int)) (fun k => ?_) (laws_loop ia ha hla d (i + 1) (by omega)))
    have hs := getD_small ha i
    have hat := prow_at (N := a.length) (cS a [1] a.length) (t := i) (by omega)
    rw [cS_one] at hat
    have e0 : (pairN (a.getD i 0).toNat).f0 = 0 := by
      show (((a.getD i 0).toNat / 18446744073709551616 : Nat) : Int) = 0
      rw [Nat.div_eq_of_lt (by omega)]
      rfl
    have e1 : (pairN (a.getD i 0).toNat).f1 = rd a (i : Int) := by
      show (((a.getD i 0).toNat % 18446744073709551616 : Nat) : Int) = _
      rw [Nat.mod_eq_of_lt (by omega), rd_nat, Int.toNat_of_nonneg (getD_pos ia i)]
    rw [tallysticklaw09_TrioLaws.l0, if_pos (by omega), if_neg (by rw [prow_length]; omega), if_pos (by omega), if_pos (by rw [prow_length]; omega), hat, if_pos e0, if_pos e1, w_succ i (by omega)]
theorem TrioLaws (a b : List Int) (hm0 : a.length ≤ maxLen) (hw0 : ∀ x ∈ a, (Lit.int .u64 x).wf = true) (y0 : a.length * 8 ≤ 140737488351232) (hm1 : b.length ≤ maxLen) (hw1 : ∀ x ∈ b, (Lit.int .u64 x).wf = true) (y1 : b.length * 8 ≤ 140737488351232) :
    ∃ k, tallysticklaw09_TrioLaws.f k a b = some true := by
  have ia := inB_of_wf hw0
  have ib := inB_of_wf hw1
  have i1 : InB W [1] := fun x hx => by
    rw [List.mem_singleton] at hx
    subst hx
    exact ⟨by decide, by decide⟩
  by_cases hlong : a.length > 300 ∨ b.length > 300
  · refine ⟨0 + 1, ?_⟩
    unfold tallysticklaw09_TrioLaws.f
    rw [shown_true, Option.bind_some]
    by_cases h1 : (a.length : Int) > 300
    · rw [if_pos h1, tallysticklaw09_TrioLaws.j0, if_pos rfl]
    · rw [if_neg h1, tallysticklaw09_TrioLaws.j0, if_pos (decide_eq_true (by omega))]
  · have hla : a.length ≤ 1024 := by omega
    have hlb : b.length ≤ 1024 := by omega
    have lt := timesV_length a b hla hlb
    refine Ev.get (Ev.congr (G := fun k => tallysticklaw09_TrioLaws.j0 k a b true false) (fun k => ?_) (Ev.succ ?_))
    · unfold tallysticklaw09_TrioLaws.f
      rw [shown_true, Option.bind_some, if_neg (by omega), decide_eq_false (by omega)]
    · refine Ev.congr (G := fun k => (tallystickref09_Pairs.f k (timesV a b).1 (timesV a b).1).bind fun t433 => tallysticklaw09_TrioLaws.j1 k a true (timesV a b).2 (timesV a [1]).1 (timesV a [1]).2 (!t433)) (fun k => ?_) (Ev.bind (pairs_ev _ (by omega)) (Ev.succ ?_))
      · rw [tallysticklaw09_TrioLaws.j0, if_neg (by decide), times_eq ia ib hla hlb, Option.bind_some, times_eq ib ia hlb hla, Option.bind_some, times_eq ia i1 hla (by decide), Option.bind_some, timesV_comm b a, if_pos rfl]
      · cases hw : a.any wideV with
        | true =>
          rw [timesV_wide hw, timesV_wide hw]
          exact Ev.congr (G := fun _ => some true) (fun k => by rw [tallysticklaw09_TrioLaws.j1, if_neg (by decide), if_neg (by decide), if_pos rfl]; rfl) (Ev.const rfl)
        | false =>
          rw [timesV_some hw (b := [1]) (by decide)]
          have hN : (if a = [] ∨ ([1] : List Int) = [] then 0 else a.length + ([1] : List Int).length - 1) = a.length := by
            by_cases ha : a = []
            · rw [if_pos (.inl ha), ha]
              rfl
            · rw [if_neg (by simp [ha])]
              simp
          rw [hN]
          exact Ev.congr (G := fun k => tallysticklaw09_TrioLaws.l0 k a true (prow a.length (cS a [1] a.length)) ((0 : Nat) : Int)) (fun k => by rw [tallysticklaw09_TrioLaws.j1, if_neg (by decide), if_pos rfl]; rfl) (laws_loop ia hw hla a.length 0 (by omega))
end Go.Proofs.YtaakniobgljniaaDoor.Pure
