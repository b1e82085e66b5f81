-- Laid by over.py, a program of this session, over the kit's printer
import Derived.Test.YtihiapjfdgoomaaPx0
namespace Go.Proofs.Ytihiapjfdgoomaa.P
open Go.RowKit Go.Proofs.YtihiapjfdgoomaaW.PrintWords Go.Proofs.YtihiapjfdgoomaaW.PrintLast Go.Proofs.YtihiapjfdgoomaaW.PrintMore
attribute [local go_sem] max2_int min2_int max_two min_two max_three min_three max_four min_four   -- for this text's walks alone
set_option linter.unusedVariables false
set_option linter.unusedSimpArgs false

/-! ### platenlaw20_more: function 18 -/
def platenlaw20_more.f (a0 : Int) (a1 : Int) : Option (Int) := if a0 > 2147483647 then (some 2147483648) else (if a1 > (wrap64 (2147483647 - a0)) then (some 2147483648) else (some (wrap64 (a0 + a1))))
set_option maxHeartbeats 8000000 in
set_option maxRecDepth 100000 in
theorem platenlaw20_more.calls (a0 : Int) (a1 : Int) (r : Int) (w : World) (h : platenlaw20_more.f a0 a1 = some r) :
    Calls Try.prog 18 #[.int .i64 a0, .int .i64 a1] w fun e w' => e = .returned (.int .i64 r) ∧ Drawn0 w w' := by
  have H : (if a0 > 2147483647 then (some 2147483648) else (if a1 > (wrap64 (2147483647 - a0)) then (some 2147483648) else (some (wrap64 (a0 + a1))))) = some r := h
  clear h
  by_cases c3 : a0 > 2147483647
  · rw [if_pos c3] at H
    have c3b0 : decide (2147483647 < a0) = true := decide_eq_true c3
    clear c3
    obtain rfl := Option.some.inj H
    go_enter Try.func18, Try.ntmps18
    go_wp2
    go_ret
    exact ⟨by first | rfl | (simp; done) | (simp [*]; done), by repeat (first | exact Drawn0.refl _ | apply Drawn0.step)⟩
  · rw [if_neg c3] at H
    have c3b0 : decide (2147483647 < a0) = false := decide_eq_false c3
    clear c3
    by_cases c4 : a1 > (wrap64 (2147483647 - a0))
    · rw [if_pos c4] at H
      have c4b0 : decide ((wrap64 (2147483647 - a0)) < a1) = true := decide_eq_true c4
      clear c4
      obtain rfl := Option.some.inj H
      go_enter Try.func18, Try.ntmps18
      go_wp2
      go_ret
      exact ⟨by first | rfl | (simp; done) | (simp [*]; done), by repeat (first | exact Drawn0.refl _ | apply Drawn0.step)⟩
    · rw [if_neg c4] at H
      have c4b0 : decide ((wrap64 (2147483647 - a0)) < a1) = false := decide_eq_false c4
      clear c4
      obtain rfl := Option.some.inj H
      go_enter Try.func18, Try.ntmps18
      go_wp2
      go_ret
      exact ⟨by first | rfl | (simp; done) | (simp [*]; done), by repeat (first | exact Drawn0.refl _ | apply Drawn0.step)⟩

end Go.Proofs.Ytihiapjfdgoomaa.P
