/- What the laws of prod reckon with, in plain numbers: Karatsuba's products, and squares. -/
import Derived.Test.YtgoglfojjpibnaaPProdA
import Derived.Test.YtgoglfojjpibnaaHProdE
namespace Go.Proofs.Ytgoglfojjpibnaa.Pure
open Go.RowKit Go.Proofs.Ytgoglfojjpibnaa.Pa Go.Proofs.YtgoglfojjpibnaaW.PrintWords Go.Proofs.YtgoglfojjpibnaaW.PrintLast Go.Proofs.Ytgoglfojjpibnaa.Hand Go.Proofs.Ytgoglfojjpibnaa.Num
set_option linter.unusedVariables false
set_option linter.unusedSimpArgs false

theorem kara_eq {a b : List Int} (ha : InB W a) (hb : InB W b) (la : a.length ≤ 1000) (lb : b.length ≤ 1000) (n : Int) : prod_Kara.f a b n = some (dig W (val W a * val W b)) := by
  unfold prod_Kara.f PLIM; rw [if_pos ⟨inb_of ha, inb_of hb, by omega, by omega⟩]
theorem square_eq {a : List Int} (ha : InB W a) (la : a.length ≤ 1000) : prod_Square.f a = some (dig W (val W a * val W a)) := by
  unfold prod_Square.f PLIM; rw [if_pos ⟨inb_of ha, by omega⟩]
end Go.Proofs.Ytgoglfojjpibnaa.Pure
