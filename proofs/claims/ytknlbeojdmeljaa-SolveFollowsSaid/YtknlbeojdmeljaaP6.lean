-- written by hprint.py (a program of this session's, over the kit's print.py)
import Derived.Test.YtknlbeojdmeljaaH10
import Derived.Test.YtknlbeojdmeljaaP0
namespace Go.Proofs.Ytknlbeojdmeljaa.P
open Go.RowKit Go.Proofs.YtknlbeojdmeljaaW.PrintWords Go.Proofs.YtknlbeojdmeljaaW.PrintLast Go.Proofs.YtknlbeojdmeljaaW.PrintMore
attribute [local go_sem] max2_int min2_int max_two min_two max_three min_three max_four min_four   -- for this text's walks alone
set_option linter.unusedVariables false
set_option linter.unusedSimpArgs false

/-! ### slotmeshlaw33_head: function 10 -/
def slotmeshlaw33_head.f  : Option (Bool) := some true
theorem slotmeshlaw33_head.calls  (r : Bool) (w : World) (h : slotmeshlaw33_head.f  = some r) :
    Calls Try.prog 10 #[] w fun e w' => e = .returned (.bool r) ∧ Below w.heap.size w w' := by
  cases h
  exact H.head_calls w

end Go.Proofs.Ytknlbeojdmeljaa.P
