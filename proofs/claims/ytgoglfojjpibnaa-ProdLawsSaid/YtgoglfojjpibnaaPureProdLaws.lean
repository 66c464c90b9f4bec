/- ProdLaws: a product hangs on no order; that of a sum is the sum of the products. -/
import Derived.Test.YtgoglfojjpibnaaPProdA
import Derived.Test.YtgoglfojjpibnaaPa7
namespace Go.Proofs.Ytgoglfojjpibnaa.Pure
open Go.RowKit Go.Proofs.Ytgoglfojjpibnaa.Pa Go.Proofs.YtgoglfojjpibnaaW.PrintWords Go.Proofs.YtgoglfojjpibnaaW.PrintLast Go.Proofs.Ytgoglfojjpibnaa.Hand Go.Proofs.Ytgoglfojjpibnaa.Num
set_option linter.unusedVariables false
set_option linter.unusedSimpArgs false

theorem prod_laws_ev {a b c : List Int} (ia : InB W a) (ib : InB W b) (ic : InB W c) (ha : a.length ≤ 40) (hb : b.length ≤ 40) (hc : c.length ≤ 40) : Ev (fun k => tallysticklaw05_ProdLaws.j0 k a b c true true) true := by
  have fa := Fit.val ia ha
  have fb := Fit.val ib hb
  have fc := Fit.val ic hc
  have fs := fb.add fc
  have fab := fa.mul fb
  have fac := fa.mul fc
  have fbc := fb.mul fc
  have ls := fs.dig
  have lab := fab.dig
  have lbc := fbc.dig
  have e1 : val W a * (val W b + val W c) = val W a * val W b + val W a * val W c := Nat.mul_add _ _ _
  have e2 : val W b * val W a = val W a * val W b := Nat.mul_comm _ _
  have e3 : val W a * val W b * val W c = val W a * (val W b * val W c) := Nat.mul_assoc _ _ _
  have h1 := school_eq ia (dI (val W b + val W c)) (by omega) (by omega)
  rw [dV, e1] at h1
  have h2 := school_eq ib ia (by omega) (by omega)
  rw [e2] at h2
  have h3 := school_eq (dI (val W a * val W b)) ic (by omega) (by omega)
  rw [dV, e3] at h3
  have h4 := school_eq ia (dI (val W b * val W c)) (by omega) (by omega)
  rw [dV] at h4
  have hab := school_eq ia ib (by omega) (by omega)
  have hac := school_eq ia ic (by omega) (by omega)
  have hbc := school_eq ib ic (by omega) (by omega)
  refine Ev.succ ?_
  simp only [tallysticklaw05_ProdLaws.j0]
  refine Ev.yes (by first | rfl | trivial) ?_
  refine Ev.bind (digits_ev ib (by omega)) (Ev.bind (digits_ev ic (by omega)) (Ev.bind (addV_ev fb fc (by decide)) (Ev.bind (words_dig_ev fs (by decide)) (Ev.bind (Ev.const h1) (Ev.bind (Ev.const hab) (Ev.bind (digits_dig_ev fab (by decide)) (Ev.bind (Ev.const hac) (Ev.bind (digits_dig_ev fac (by decide)) (Ev.bind (addV_ev fab fac (by decide)) (Ev.bind (words_dig_ev (fab.add fac) (by decide)) ?_))))))))))
  refine Ev.yes (by first | rfl | trivial) (Ev.bind (sameW_ev (fab.add fac) (by decide)) (Ev.yes (by first | rfl | trivial) ?_))
  refine Ev.bind (Ev.const hab) (Ev.bind (Ev.const h2) (Ev.bind (sameW_ev fab (by decide)) (Ev.yes (by first | rfl | trivial) ?_)))
  exact Ev.bind (Ev.const hab) (Ev.bind (Ev.const h3) (Ev.bind (Ev.const hbc) (Ev.bind (Ev.const h4) (Ev.bind (sameW_ev (fa.mul fbc) (by decide)) (Ev.const rfl)))))
theorem ProdLaws : tallysticklaw05_ProdLaws.Pure := by
  intro a b c _ _ wa _ _ wb _ _ wc
  have ia := inB_of_wf wa
  have ib := inB_of_wf wb
  have ic := inB_of_wf wc
  refine Ev.get (F := fun k => tallysticklaw05_ProdLaws.f k a b c) ?_
  unfold tallysticklaw05_ProdLaws.f
  refine Ev.bind (Ev.const shown5) (Ev.bind (Ev.const (few5 a b)) ?_)
  have hno : Ev (fun k => tallysticklaw05_ProdLaws.j0 k a b c true false) true := Ev.succ (Ev.congr (G := fun _ => some true) (fun k => by rw [tallysticklaw05_ProdLaws.j0, if_neg (by decide)]) (Ev.const rfl))
  by_cases h : a.length ≤ 40 ∧ b.length ≤ 40
  · refine Ev.yes (decide_eq_true h) (Ev.bind (Ev.const (few5 c [])) ?_)
    by_cases h2 : c.length ≤ 40 ∧ ([] : List Int).length ≤ 40
    · rw [decide_eq_true h2]
      exact prod_laws_ev ia ib ic h.1 h.2 h2.1
    · rw [decide_eq_false h2]
      exact hno
  · exact Ev.no (by simpa using h) hno
end Go.Proofs.Ytgoglfojjpibnaa.Pure
