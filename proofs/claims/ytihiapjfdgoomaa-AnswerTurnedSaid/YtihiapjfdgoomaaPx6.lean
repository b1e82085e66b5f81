-- Laid by over.py, a program of this session, over the kit's printer
import Derived.Test.YtihiapjfdgoomaaPx0
import Derived.Test.YtihiapjfdgoomaaB9
namespace Go.Proofs.Ytihiapjfdgoomaa.P
open Go.RowKit Go.Proofs.YtihiapjfdgoomaaW.PrintWords Go.Proofs.YtihiapjfdgoomaaW.PrintLast Go.Proofs.YtihiapjfdgoomaaW.PrintMore
attribute [local go_sem] max2_int min2_int max_two min_two max_three min_three max_four min_four   -- for this text's walks alone
set_option linter.unusedVariables false
set_option linter.unusedSimpArgs false

--OVER
open Go.Proofs.Ytihiapjfdgoomaa.A in
def answer_Put.f (a0_0 : Int) (a0_1 : Int) (a0_2 : Int) (a0_3 : Int) (l0_4 : List (S45)) : Option (List Int × Int) := putF a0_0 a0_1 a0_2 a0_3 l0_4
theorem answer_Put.calls (a0_0 : Int) (a0_1 : Int) (a0_2 : Int) (a0_3 : Int) (A0_4 : Option Addr) (c0_4 : Nat) (l0_4 : List (S45)) (r1 : List Int) (r2 : Int) (w : World) (hr0_4 : Kd.C k45 w A0_4 l0_4.length l0_4) (hc0_4 : l0_4.length ≤ c0_4) (h : answer_Put.f a0_0 a0_1 a0_2 a0_3 l0_4 = some (r1, r2)) :
    Calls Try.prog 10 #[.agg #[.int .i64 a0_0, .int .i64 a0_1, .int .i64 a0_2, .int .i64 a0_3, .slice A0_4 l0_4.length c0_4]] w fun e w' => ∃ v0_ : Value, e = .returned (.tuple #[v0_, .int .i64 r2]) ∧ Kd.R (Kd.int .u8) 5 w' w.heap.size (fun _ => True) v0_ r1 ∧ Below w.heap.size w w' :=
  Go.Proofs.Ytihiapjfdgoomaa.A.put_all a0_0 a0_1 a0_2 a0_3 A0_4 c0_4 l0_4 r1 r2 w hr0_4 hc0_4 h

end Go.Proofs.Ytihiapjfdgoomaa.P
