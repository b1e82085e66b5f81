/- An argument of type api.Answer, opened. -/
import Derived.Test.YtihiapjfdgoomaaF0
import Derived.Test.YtihiapjfdgoomaaD3
namespace Go.Proofs.Ytihiapjfdgoomaa.A
open Go.RowKit Go.Proofs.YtihiapjfdgoomaaW.PrintWords Go.Proofs.YtihiapjfdgoomaaW.PrintLast Go.Proofs.YtihiapjfdgoomaaW.PrintMore Go.Proofs.YtihiapjfdgoomaaW.Opened
open Go.Proofs.Ytihiapjfdgoomaa.P
set_option linter.unusedVariables false
set_option linter.unusedSimpArgs false

instance : Inhabited S50 := ⟨z50⟩
instance : Inhabited S48 := ⟨z48⟩
instance : Inhabited S45 := ⟨z45⟩
theorem c3 : Try.prog.cellsOf 3 = 1 := by kernel_rfl
theorem c4 : Try.prog.cellsOf 4 = 1 := by kernel_rfl
theorem c9 : Try.prog.cellsOf 9 = 1 := by kernel_rfl
theorem c22 : Try.prog.cellsOf 22 = 1 := by kernel_rfl
theorem c46 : Try.prog.cellsOf 46 = 1 := by kernel_rfl
theorem c43 : Try.prog.cellsOf 43 = 1 := by kernel_rfl
theorem c25 : Try.prog.cellsOf 25 = 1 := by kernel_rfl
theorem c50 : Try.prog.cellsOf 50 = 10 := by kernel_rfl
theorem c48 : Try.prog.cellsOf 48 = 4 := by kernel_rfl
theorem c45 : Try.prog.cellsOf 45 = 4 := by kernel_rfl
theorem c24 : Try.prog.cellsOf 24 = 2 := by kernel_rfl
theorem c27 : Try.prog.cellsOf 27 = 5 := by kernel_rfl
theorem wf_inR {n : Int} (h : (Lit.int .i64 n).wf = true) : inR n := by
  have h2 : -9223372036854775808 ≤ n ∧ n ≤ 9223372036854775807 := by
    simp [Lit.wf, IntKind.min, IntKind.max, IntKind.bits, IntKind.signed] at h
    omega
  exact ⟨h2.1, by omega⟩
theorem opens3 : Opens Try.prog 3 (Kd.int .i64) inR := fun H enc w base spare held fuel cs x h => by
  obtain ⟨a, ha, hw⟩ := opens_int Try.underlying3 H enc w base spare held fuel cs x h
  exact ⟨a, ha, wf_inR hw⟩
theorem opens50 : Opens Try.prog 50 k50 okB := by
  intro H enc w base spare held fuel cs x h
  obtain ⟨hl, n, hf⟩ := struct_opens Try.underlying50 h
  rw [c50] at hl
  match cs, hl with
  | [v0, v1, v2, v3, v4, v5, v6, v7, v8, v9], _ =>
    obtain ⟨_, g0⟩ := hf 0 _ rfl
    obtain ⟨_, g1⟩ := hf 1 _ rfl
    obtain ⟨_, g2⟩ := hf 2 _ rfl
    obtain ⟨_, g3⟩ := hf 3 _ rfl
    obtain ⟨_, g4⟩ := hf 4 _ rfl
    obtain ⟨_, g5⟩ := hf 5 _ rfl
    obtain ⟨_, g6⟩ := hf 6 _ rfl
    obtain ⟨_, g7⟩ := hf 7 _ rfl
    obtain ⟨_, g8⟩ := hf 8 _ rfl
    obtain ⟨_, g9⟩ := hf 9 _ rfl
    simp only [c3, c9, List.getElem_toArray, List.getElem_cons_zero, List.getElem_cons_succ, List.drop_succ_cons, List.drop_zero, List.take_succ_cons, List.take_zero] at g0 g1 g2 g3 g4 g5 g6 g7 g8 g9
    obtain ⟨a0, e0, o0⟩ := opens3 _ _ _ _ _ _ _ _ _ g0
    obtain ⟨a1, e1, o1⟩ := opens3 _ _ _ _ _ _ _ _ _ g1
    obtain ⟨a2, e2, o2⟩ := opens_string Try.underlying9 _ _ _ _ _ _ _ _ _ g2
    obtain ⟨a3, e3, o3⟩ := opens3 _ _ _ _ _ _ _ _ _ g3
    obtain ⟨a4, e4, o4⟩ := opens3 _ _ _ _ _ _ _ _ _ g4
    obtain ⟨a5, e5, o5⟩ := opens3 _ _ _ _ _ _ _ _ _ g5
    obtain ⟨a6, e6, o6⟩ := opens3 _ _ _ _ _ _ _ _ _ g6
    obtain ⟨a7, e7, o7⟩ := opens3 _ _ _ _ _ _ _ _ _ g7
    obtain ⟨a8, e8, o8⟩ := opens3 _ _ _ _ _ _ _ _ _ g8
    obtain ⟨a9, e9, o9⟩ := opens3 _ _ _ _ _ _ _ _ _ g9
    cases e0; cases e1; cases e2; cases e3; cases e4; cases e5; cases e6; cases e7; cases e8; cases e9
    exact ⟨⟨a0, a1, a2, a3, a4, a5, a6, a7, a8, a9⟩, k50_mk w ⟨a0, a1, a2, a3, a4, a5, a6, a7, a8, a9⟩, o0, o1, by unfold maxLen at o2; simp only; omega, o3, o4, o5, o6, o7, o8, o9⟩
theorem opens48 : Opens Try.prog 48 k48 okR := by
  intro H enc w base spare held fuel cs x h
  obtain ⟨hl, n, hf⟩ := struct_opens Try.underlying48 h
  rw [c48] at hl
  match cs, hl with
  | [v0, v1, v2, v3], _ =>
    obtain ⟨_, g0⟩ := hf 0 _ rfl
    obtain ⟨_, g1⟩ := hf 1 _ rfl
    obtain ⟨_, g2⟩ := hf 2 _ rfl
    obtain ⟨_, g3⟩ := hf 3 _ rfl
    simp only [c3, c4, c46, List.getElem_toArray, List.getElem_cons_zero, List.getElem_cons_succ, List.drop_succ_cons, List.drop_zero, List.take_succ_cons, List.take_zero] at g0 g1 g2 g3
    obtain ⟨a0, e0, o0⟩ := opens3 _ _ _ _ _ _ _ _ _ g0
    obtain ⟨a1, e1, _⟩ := opens_bool Try.underlying4 _ _ _ _ _ _ _ _ _ g1
    obtain ⟨a2, e2, _⟩ := opens_bool Try.underlying4 _ _ _ _ _ _ _ _ _ g2
    obtain ⟨xs, A, c, e3, h3, h4, h5, h6⟩ := slice_opens Try.underlying46 c50 opens50 g3
    cases e0; cases e1; cases e2; cases e3
    exact ⟨⟨a0, a1, a2, xs⟩, k48_mk w ⟨a0, a1, a2, xs⟩ h3 h5, o0, by unfold maxLen at h4; simp only; omega, h6⟩
theorem opens45 : Opens Try.prog 45 k45 okP := by
  intro H enc w base spare held fuel cs x h
  obtain ⟨hl, n, hf⟩ := struct_opens Try.underlying45 h
  rw [c45] at hl
  match cs, hl with
  | [v0, v1, v2, v3], _ =>
    obtain ⟨_, g0⟩ := hf 0 _ rfl
    obtain ⟨_, g1⟩ := hf 1 _ rfl
    obtain ⟨_, g2⟩ := hf 2 _ rfl
    obtain ⟨_, g3⟩ := hf 3 _ rfl
    simp only [c3, c4, c43, List.getElem_toArray, List.getElem_cons_zero, List.getElem_cons_succ, List.drop_succ_cons, List.drop_zero, List.take_succ_cons, List.take_zero] at g0 g1 g2 g3
    obtain ⟨a0, e0, o0⟩ := opens3 _ _ _ _ _ _ _ _ _ g0
    obtain ⟨a1, e1, o1⟩ := opens3 _ _ _ _ _ _ _ _ _ g1
    obtain ⟨a2, e2, _⟩ := opens_bool Try.underlying4 _ _ _ _ _ _ _ _ _ g2
    obtain ⟨xs, A, c, e3, h3, h4, h5, h6⟩ := slice_opens Try.underlying43 c48 opens48 g3
    cases e0; cases e1; cases e2; cases e3
    exact ⟨⟨a0, a1, a2, xs⟩, k45_mk w ⟨a0, a1, a2, xs⟩ h3 h5, o0, o1, by unfold maxLen at h4; simp only; omega, h6⟩
/-- An argument that is an answer. -/
theorem answer_opens {H : Type} {enc : TypeId × Value → H} {W : World} {base b0 : Nat} {spare : Nat → Bool} {held : Bool} {r : Reach} {v : Value} {d : DataW H} {ps : List MemPlace}
    (hval : Value.okWide Try.prog W r b0 27 v) (h : DataW.Trod enc Try.prog W base spare held 27 v d ps) :
    ∃ (a0 a1 a2 a3 : Int) (A : Option Addr) (c : Nat) (l : List S45), v = .agg #[.int .i64 a0, .int .i64 a1, .int .i64 a2, .int .i64 a3, .slice A l.length c] ∧ l.length ≤ c ∧ Kd.C k45 W A l.length l ∧ okA a0 a1 a2 a3 l := by
  obtain ⟨cs, rfl, _⟩ := Go.WideShapes.okWide_struct Try.underlying27 hval
  obtain ⟨fuel, hf0⟩ := h
  obtain ⟨hl, n, hf⟩ := struct_opens Try.underlying27 hf0
  rw [c27] at hl
  have hcs : (Value.agg cs).cells.toList = cs.toList := rfl
  rw [hcs] at hl hf
  obtain ⟨l5, rfl⟩ : ∃ l : List Value, cs = l.toArray := ⟨cs.toList, by simp⟩
  simp only at hl hf
  match l5, hl with
  | [v0, v1, v2, v3, v4], _ =>
    obtain ⟨_, g0⟩ := hf 0 _ rfl
    obtain ⟨_, g1⟩ := hf 1 _ rfl
    obtain ⟨_, g2⟩ := hf 2 _ rfl
    obtain ⟨_, g3⟩ := hf 3 _ rfl
    simp only [c3, c24, c25, List.getElem_toArray, List.getElem_cons_zero, List.getElem_cons_succ, List.drop_succ_cons, List.drop_zero, List.take_succ_cons, List.take_zero] at g0 g1 g2 g3
    obtain ⟨_, n2, hf2⟩ := struct_opens Try.underlying24 g0
    obtain ⟨_, j0⟩ := hf2 0 _ rfl
    obtain ⟨_, j1⟩ := hf2 1 _ rfl
    simp only [c3, c22, List.getElem_toArray, List.getElem_cons_zero, List.getElem_cons_succ, List.drop_succ_cons, List.drop_zero, List.take_succ_cons, List.take_zero] at j0 j1
    obtain ⟨a0, e0, o0⟩ := opens_int Try.underlying22 _ _ _ _ _ _ _ _ _ j0
    obtain ⟨a1, e1, o1⟩ := opens3 _ _ _ _ _ _ _ _ _ j1
    obtain ⟨a2, e2, o2⟩ := opens3 _ _ _ _ _ _ _ _ _ g1
    obtain ⟨a3, e3, o3⟩ := opens3 _ _ _ _ _ _ _ _ _ g2
    obtain ⟨xs, A, c, e4, h3, h4, h5, h6⟩ := slice_opens Try.underlying25 c45 opens45 g3
    cases e0; cases e1; cases e2; cases e3; cases e4
    exact ⟨a0, a1, a2, a3, A, c, xs, rfl, h3, h5, wf_inR o0, o1, o2, o3, by unfold maxLen at h4; omega, h6⟩
end Go.Proofs.Ytihiapjfdgoomaa.A
