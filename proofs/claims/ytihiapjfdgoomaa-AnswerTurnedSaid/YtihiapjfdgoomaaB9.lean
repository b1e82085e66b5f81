/- The whole contracts of answer.Put and answer.Get. -/
import Derived.Test.YtihiapjfdgoomaaB8
namespace Go.Proofs.Ytihiapjfdgoomaa.A
open Go.RowKit Go.Proofs.YtihiapjfdgoomaaW.PrintWords Go.Proofs.YtihiapjfdgoomaaW.PrintLast Go.Proofs.YtihiapjfdgoomaaW.PrintMore
open Go.Proofs.Ytihiapjfdgoomaa.P
set_option linter.unusedVariables false
set_option linter.unusedSimpArgs false

theorem get_all (A : Option Addr) (c : Nat) (b : List Int) (w : World) (hC : Kd.C (Kd.int .u8) w A b.length b) (hc : b.length ≤ c) (hl : b.length ≤ 1099511627776) :
    Calls Try.prog 15 #[.slice A b.length c] w (GetPost w b) := by
  by_cases h1 : b.length < 56
  · exact get_early A c b w ⟨hC, hc⟩ hl (.inl h1)
  · cases hm : markOk b with
    | false => exact get_early A c b w ⟨hC, hc⟩ hl (.inr hm)
    | true =>
      obtain ⟨e, he⟩ : ∃ e, b.length = e + 8 := ⟨b.length - 8, by omega⟩
      have h := get_late A c b w ⟨hC, hc⟩ e he (by omega) (by omega) hm
      rw [← he] at h
      exact h
/-- What Put and Get tell. -/
def putF (a0 a1 a2 a3 : Int) (l : List S45) : Option (List Int × Int) :=
  if a2 < 0 ∨ a3 < 0 ∨ a0 ≠ 0 ∧ 0 < l.length then some ([], 200)
  else if (bodyB a0 a1 a2 a3 l).length + 8 ≤ 140737488355328 then some (putB a0 a1 a2 a3 l, 0) else none
def getT (b : List Int) : Option (Int × Int × Int × Int × List S45 × Int) := if b.length ≤ 1099511627776 then some (getF b) else none
theorem put_all (a0 a1 a2 a3 : Int) (A : Option Addr) (c : Nat) (l : List S45) (r1 : List Int) (r2 : Int) (w : World) (hC : Kd.C k45 w A l.length l) (hc : l.length ≤ c) (h : putF a0 a1 a2 a3 l = some (r1, r2)) :
    Calls Try.prog 10 #[.agg #[.int .i64 a0, .int .i64 a1, .int .i64 a2, .int .i64 a3, .slice A l.length c]] w fun e w' =>
      ∃ v : Value, e = .returned (.tuple #[v, .int .i64 r2]) ∧ Kd.R (Kd.int .u8) 5 w' w.heap.size (fun _ => True) v r1 ∧ Below w.heap.size w w' := by
  unfold putF at h
  split at h
  · rename_i h0
    cases h
    exact (put_no a0 a1 a2 a3 A c l w hC hc h0).mono fun e w' ⟨he, hb⟩ => ⟨_, he, Kd.R_nil _ _ _ _ _, hb⟩
  · rename_i h0
    split at h
    · rename_i h1
      cases h
      exact put_ok a0 a1 a2 a3 A c l w hC hc (by omega) (by omega) (by omega) h1
    · cases h
theorem get_tells (A : Option Addr) (c : Nat) (b : List Int) (r1 r2 r3 r4 : Int) (r5 : List S45) (r6 : Int) (w : World) (hC : Kd.C (Kd.int .u8) w A b.length b) (hc : b.length ≤ c) (h : getT b = some (r1, r2, r3, r4, r5, r6)) :
    Calls Try.prog 15 #[.slice A b.length c] w fun e w' =>
      ∃ v4_ : Value, e = .returned (.tuple #[.agg #[.int .i64 r1, .int .i64 r2, .int .i64 r3, .int .i64 r4, v4_], .int .i64 r6]) ∧ Kd.R k45 45 w' w.heap.size (fun _ => True) v4_ r5 ∧ Below w.heap.size w w' := by
  unfold getT at h
  split at h
  · rename_i h0
    have h1 : getF b = (r1, r2, r3, r4, r5, r6) := Option.some.inj h
    refine (get_all A c b w hC hc h0).mono fun e w' ⟨v, he, hs, hb⟩ => ?_
    rw [h1] at he hs
    exact ⟨v, he, Kd.R_mono (R_of_A hs) (fun _ _ => trivial), hb⟩
  · cases h
end Go.Proofs.Ytihiapjfdgoomaa.A
