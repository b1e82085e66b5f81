-- Laid by over.py, a program of this session, over the kit's printer
import Derived.Test.YtihiapjfdgoomaaPx0
import Derived.Test.YtihiapjfdgoomaaB9
namespace Go.Proofs.Ytihiapjfdgoomaa.P
open Go.RowKit Go.Proofs.YtihiapjfdgoomaaW.PrintWords Go.Proofs.YtihiapjfdgoomaaW.PrintLast Go.Proofs.YtihiapjfdgoomaaW.PrintMore
attribute [local go_sem] max2_int min2_int max_two min_two max_three min_three max_four min_four   -- for this text's walks alone
set_option linter.unusedVariables false
set_option linter.unusedSimpArgs false

--OVER
open Go.Proofs.Ytihiapjfdgoomaa.A in
def answer_Get.f (l0 : List Int) : Option (Int × Int × Int × Int × (List (S45)) × Int) := getT l0
theorem answer_Get.calls (A0 : Option Addr) (c0 : Nat) (l0 : List Int) (r1 : Int) (r2 : Int) (r3 : Int) (r4 : Int) (r5 : List (S45)) (r6 : Int) (w : World) (hr0 : Kd.C (Kd.int .u8) w A0 l0.length l0) (hc0 : l0.length ≤ c0) (h : answer_Get.f l0 = some (r1, r2, r3, r4, r5, r6)) :
    Calls Try.prog 15 #[.slice A0 l0.length c0] w fun e w' => ∃ v4_ : Value, e = .returned (.tuple #[.agg #[.int .i64 r1, .int .i64 r2, .int .i64 r3, .int .i64 r4, v4_], .int .i64 r6]) ∧ Kd.R k45 45 w' w.heap.size (fun _ => True) v4_ r5 ∧ Below w.heap.size w w' :=
  Go.Proofs.Ytihiapjfdgoomaa.A.get_tells A0 c0 l0 r1 r2 r3 r4 r5 r6 w hr0 hc0 h

end Go.Proofs.Ytihiapjfdgoomaa.P
