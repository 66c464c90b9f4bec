/- TrioTimes: products modulo one of the primes, and exact ones, are as the document says: for all rows of 100 places at most, every number. -/
import Derived.Test.YtaakniobgljniaaDoorPTrioD
import Derived.Test.YtaakniobgljniaaDoorPb7
namespace Go.Proofs.YtaakniobgljniaaDoor.Pure
open Go.RowKit Go.Proofs.YtaakniobgljniaaDoor.Pa Go.Proofs.YtaakniobgljniaaDoor.Pb Go.Proofs.YtaakniobgljniaaDoorW.PrintWords Go.Proofs.YtaakniobgljniaaDoorW.PrintLast Go.Proofs.YtaakniobgljniaaDoor.Hand Go.Proofs.YtaakniobgljniaaDoor.Num
set_option linter.unusedVariables false
set_option linter.unusedSimpArgs false

theorem TrioTimes (a b : List Int) (m : Int) (hm0 : a.length ≤ maxLen) (hw0 : ∀ x ∈ a, (Lit.int .u64 x).wf = true) (y0 : a.length * 8 ≤ 140737488351232) (hm1 : b.length ≤ maxLen) (hw1 : ∀ x ∈ b, (Lit.int .u64 x).wf = true) (y1 : b.length * 8 ≤ 140737488351232) (hm : (Lit.int .u32 m).wf = true) :
    ∃ k, tallysticklaw09_TrioTimes.f k a b m = some true := by
  have ia := inB_of_wf hw0
  have ib := inB_of_wf hw1
  have hb := bounds_u32 hm
  by_cases hlong : a.length > 100 ∨ b.length > 100
  · refine ⟨0 + 1, ?_⟩
    unfold tallysticklaw09_TrioTimes.f
    rw [shown_true, Option.bind_some]
    by_cases h1 : (a.length : Int) > 100
    · rw [if_pos h1, tallysticklaw09_TrioTimes.j0, if_pos rfl]
    · rw [if_neg h1, tallysticklaw09_TrioTimes.j0, if_pos (decide_eq_true (by omega))]
  · have hla : a.length ≤ 1024 := by omega
    have hlb : b.length ≤ 1024 := by omega
    have lt := timesV_length a b hla hlb
    have lm := modV_length a b m hla hlb
    refine Ev.get (Ev.congr (G := fun k => tallysticklaw09_TrioTimes.j0 k a b m true false) (fun k => ?_) (Ev.succ ?_))
    · unfold tallysticklaw09_TrioTimes.f
      rw [shown_true, Option.bind_some, if_neg (by omega), decide_eq_false (by omega)]
    · refine Ev.congr (G := fun k => (tallystickref09_Mod.f k a b m).bind fun bt403 => ((tallystickref09_Times.f k a b).bind fun bt411 => ((tallystickref09_Rows.f k (modV a b m).1 bt403.1).bind fun t415 => (if t415 = true then (if (modV a b m).2 = bt403.2 then ((tallystickref09_Pairs.f k (timesV a b).1 bt411.1).bind fun t416 => (if t416 = true then (some ((timesV a b).2 == bt411.2)) else (some false))) else (some false)) else (some false)))))
        (fun k => ?_) (Ev.bind (refmod_ev m hb.1 ia ib hla hlb) (Ev.bind (times_ev ia ib hla hlb) (Ev.bind (rows_ev _ (by omega)) ?_)))
      · rw [tallysticklaw09_TrioTimes.j0, if_neg (by decide), mod_eq m ia ib hla hlb, Option.bind_some, times_eq ia ib hla hlb]
        rfl
      · refine Ev.congr (G := fun k => (tallystickref09_Pairs.f k (timesV a b).1 (timesV a b).1).bind fun t416 => (if t416 = true then (some ((timesV a b).2 == (timesV a b).2)) else (some false))) (fun k => by rw [if_pos rfl, if_pos rfl]) (Ev.bind (pairs_ev _ (by omega)) (Ev.const ?_))
        rw [if_pos rfl]
        simp
end Go.Proofs.YtaakniobgljniaaDoor.Pure
