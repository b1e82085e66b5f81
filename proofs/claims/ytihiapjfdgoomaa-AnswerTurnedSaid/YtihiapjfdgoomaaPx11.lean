-- Laid by over.py, a program of this session, over the kit's printer
import Derived.Test.YtihiapjfdgoomaaPx0
import Derived.Test.YtihiapjfdgoomaaC1
namespace Go.Proofs.Ytihiapjfdgoomaa.P
open Go.RowKit Go.Proofs.YtihiapjfdgoomaaW.PrintWords Go.Proofs.YtihiapjfdgoomaaW.PrintLast Go.Proofs.YtihiapjfdgoomaaW.PrintMore
attribute [local go_sem] max2_int min2_int max_two min_two max_three min_three max_four min_four   -- for this text's walks alone
set_option linter.unusedVariables false
set_option linter.unusedSimpArgs false

--OVER
def platenlaw20_shown.f : Option Bool := some true
theorem platenlaw20_shown.calls (r : Bool) (w : World) (h : platenlaw20_shown.f = some r) :
    Calls Try.prog 8 #[] w fun e w' => e = .returned (.bool r) ∧ Below w.heap.size w w' := by
  cases h
  exact Go.Proofs.Ytihiapjfdgoomaa.A.shown_calls w

end Go.Proofs.Ytihiapjfdgoomaa.P
