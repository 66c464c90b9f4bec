/- WordTurned: a sum and a product hang on no order; a difference and its turned one go together. -/
import Derived.Test.YtnmfinhmhmepdaaPWordA
import Derived.Test.YtnmfinhmhmepdaaPa9
namespace Go.Proofs.Ytnmfinhmhmepdaa.Pure
open Go.RowKit Go.Proofs.Ytnmfinhmhmepdaa.Pa Go.Proofs.YtnmfinhmhmepdaaW.PrintWords Go.Proofs.YtnmfinhmhmepdaaW.PrintMore Go.Proofs.YtnmfinhmhmepdaaW.PrintLast Go.Proofs.Ytnmfinhmhmepdaa.Hand Go.Proofs.Ytnmfinhmhmepdaa.Num
set_option linter.unusedVariables false
set_option linter.unusedSimpArgs false

theorem WordTurned : tallysticklaw01_WordTurned.Pure := by
  intro a b c wa wb wc
  have ha := wd_of wa
  have hb := wd_of wb
  have hc := wd_of wc
  have e1 : sumLo a b (cut1 c) = sumLo b a (cut1 c) := by unfold sumLo; rw [Int.add_comm a b]
  have e2 : sumHi a b (cut1 c) = sumHi b a (cut1 c) := by unfold sumHi; rw [Int.add_comm a b]
  have e3 : mulHi a b = mulHi b a := by unfold mulHi; rw [Int.mul_comm a b]
  have e4 : mulLo a b = mulLo b a := by unfold mulLo; rw [Int.mul_comm a b]
  have e5 : subLo a b 0 = IntKind.u64.wrap (-subLo b a 0) := by rw [IntKind.wrap_u64]; unfold subLo; omega
  unfold tallysticklaw01_WordTurned.f
  rw [shown1, Option.bind_some, wadd ha hb hc, Option.bind_some, wadd hb ha hc, Option.bind_some, wmul ha hb, Option.bind_some, wmul hb ha, Option.bind_some, wsub ha hb wd0, Option.bind_some, wsub hb ha wd0, Option.bind_some, if_pos rfl, if_pos e1, if_pos e2, if_pos e3, if_pos e4, cut1_0, if_pos e5]
  by_cases h : a = b
  · have e6 : IntKind.u64.wrap (subHi a b 0 + subHi b a 0) = 0 := by rw [IntKind.wrap_u64]; unfold subHi; split <;> split <;> omega
    rw [if_pos h, e6]; rfl
  · have e6 : IntKind.u64.wrap (subHi a b 0 + subHi b a 0) = 1 := by rw [IntKind.wrap_u64]; unfold subHi; split <;> split <;> omega
    rw [if_neg h, if_pos e6]
end Go.Proofs.Ytnmfinhmhmepdaa.Pure
