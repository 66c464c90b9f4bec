/- WordBack: what was added is taken off again, with as much borrowed as was carried. -/
import Derived.Test.YtnmfinhmhmepdaaPWordA
import Derived.Test.YtnmfinhmhmepdaaPa8
namespace Go.Proofs.Ytnmfinhmhmepdaa.Pure
open Go.RowKit Go.Proofs.Ytnmfinhmhmepdaa.Pa Go.Proofs.YtnmfinhmhmepdaaW.PrintWords Go.Proofs.YtnmfinhmhmepdaaW.PrintMore Go.Proofs.YtnmfinhmhmepdaaW.PrintLast Go.Proofs.Ytnmfinhmhmepdaa.Hand Go.Proofs.Ytnmfinhmhmepdaa.Num
set_option linter.unusedVariables false
set_option linter.unusedSimpArgs false

theorem WordBack : tallysticklaw01_WordBack.Pure := by
  intro a b c wa wb wc
  have ha := wd_of wa
  have hb := wd_of wb
  have hc := wd_of wc
  have hs := sumLo_wd a b (cut1 c)
  have h1 := cut1_in hc
  have e1 : subLo (sumLo a b (cut1 c)) b (cut1 c) = a := by unfold Wd at *; unfold subLo sumLo; omega
  have e2 : sumHi a b (cut1 c) = subHi (sumLo a b (cut1 c)) b (cut1 c) := by unfold Wd at *; unfold subHi sumHi sumLo; split <;> omega
  have e3 := (sumHi_le ha hb h1.1 h1.2).2
  unfold tallysticklaw01_WordBack.f
  rw [shown1, Option.bind_some, wadd ha hb hc, Option.bind_some, wsub hs hb hc, Option.bind_some, if_pos rfl, if_pos e1, if_pos e2, decide_eq_true e3]
end Go.Proofs.Ytnmfinhmhmepdaa.Pure
