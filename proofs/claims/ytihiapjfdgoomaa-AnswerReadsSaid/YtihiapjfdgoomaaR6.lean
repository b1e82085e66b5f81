/- Same answers are the same: what same and sameBytes tell of them. Appending a text's bytes to a row of one's own: where the row lies behind it; and the contract of platenref20.Text. What platenref20.Put tells (printed). The document's own Put lays down the same bytes. The contract of the document's Marked. -/
import Derived.Test.YtihiapjfdgoomaaR1
import Derived.Test.YtihiapjfdgoomaaR2
import Derived.Test.YtihiapjfdgoomaaR5
import Derived.Test.YtihiapjfdgoomaaR3
namespace Go.Proofs.Ytihiapjfdgoomaa.P
open Go.RowKit Go.Proofs.YtihiapjfdgoomaaW.PrintWords Go.Proofs.YtihiapjfdgoomaaW.PrintLast Go.Proofs.YtihiapjfdgoomaaW.PrintMore
attribute [local go_sem] max2_int min2_int max_two min_two max_three min_three max_four min_four   -- for this text's walks alone
set_option linter.unusedVariables false
set_option linter.unusedSimpArgs false
def platenlaw20_sameBytes.l0 : Nat → List Int → List Int → Int → Option (Bool)
  | 0, _, _, _ => none
  | k + 1, x0, x1, x5 => if x5 < (x0.length : Int) then (if 0 ≤ x5 then (if x5 < (x1.length : Int) then (if (rd x0 x5) = (rd x1 x5) then (platenlaw20_sameBytes.l0 k x0 x1 (wrap64 (x5 + 1))) else (some false)) else (none)) else (none)) else (some true)
def platenlaw20_sameBytes.f (k : Nat) (l0 : List Int) (l1 : List Int) : Option (Bool) := if (l0.length : Int) = (l1.length : Int) then (platenlaw20_sameBytes.l0 k l0 l1 0) else (some false)
theorem platenlaw20_sameBytes.mono_l : ∀ k, (∀ y0 y1 y2, LeO (platenlaw20_sameBytes.l0 k y0 y1 y2) (platenlaw20_sameBytes.l0 (k + 1) y0 y1 y2))
  | 0 => fun _ _ _ r h => by simp [platenlaw20_sameBytes.l0] at h
  | k + 1 => by
    have ih0 := platenlaw20_sameBytes.mono_l k
    · intro y0 y1 y2
      unfold platenlaw20_sameBytes.l0
      repeat' first
      | (with_reducible exact ih0 _ _ _)
      | (with_reducible exact LeO.refl _)
      | (with_reducible exact LeO.none _)
      | (with_reducible refine LeO.ite ?_ ?_)
      | (with_reducible refine LeO.bind ?_ (fun _ => ?_))
      | exact ih0 _ _ _
      | exact LeO.none _
      | refine LeO.ite ?_ ?_
      | refine LeO.bind ?_ (fun _ => ?_)
theorem platenlaw20_sameBytes.mono : ∀ a0 a1 k, LeO (platenlaw20_sameBytes.f k a0 a1) (platenlaw20_sameBytes.f (k + 1) a0 a1) := by
  intro a0 a1 k
  have ih0 := platenlaw20_sameBytes.mono_l k
  unfold platenlaw20_sameBytes.f
  repeat' first
      | (with_reducible exact ih0 _ _ _)
      | (with_reducible exact LeO.refl _)
      | (with_reducible exact LeO.none _)
      | (with_reducible refine LeO.ite ?_ ?_)
      | (with_reducible refine LeO.bind ?_ (fun _ => ?_))
      | exact ih0 _ _ _
      | exact LeO.none _
      | refine LeO.ite ?_ ?_
      | refine LeO.bind ?_ (fun _ => ?_)
set_option maxHeartbeats 8000000 in
set_option maxRecDepth 100000 in
theorem platenlaw20_sameBytes.calls (k : Nat) (A0 : Option Addr) (c0 : Nat) (l0 : List Int) (A1 : Option Addr) (c1 : Nat) (l1 : List Int) (r : Bool) (w : World) (hr0 : Kd.C (Kd.int .u8) w A0 l0.length l0) (hc0 : l0.length ≤ c0) (hr1 : Kd.C (Kd.int .u8) w A1 l1.length l1) (hc1 : l1.length ≤ c1) (h : platenlaw20_sameBytes.f k l0 l1 = some r) :
    Calls Try.prog 12 #[.slice A0 l0.length c0, .slice A1 l1.length c1] w fun e w' => e = .returned (.bool r) ∧ Drawn0 w w' := by
  have HR0 := Aside0.mk hr0
  have HC0 := Aside0.mk hc0
  clear hr0 hc0
  have HR1 := Aside0.mk hr1
  have HC1 := Aside0.mk hc1
  clear hr1 hc1
  have H : (if (l0.length : Int) = (l1.length : Int) then (platenlaw20_sameBytes.l0 k l0 l1 0) else (some false)) = some r := h
  clear h
  by_cases c3 : (l0.length : Int) = (l1.length : Int)
  · rw [if_pos c3] at H
    have c3b0 : ((l0.length : Int) == (l1.length : Int)) = true := beq_iff_eq.mpr c3
    have c3b1 : ((l0.length : Int) != (l1.length : Int)) = false := bne_eq_false_iff_eq.mpr c3
    have c3b2 : (l0.length == l1.length) = true := by first | simpa using c3 | (simp at c3 ⊢; omega)
    clear c3
    have H' := Aside0.mk H
    clear H
    go_enter Try.func12, Try.ntmps12
    go_wp2
    repeat (go_quiet (fail); try go_wp2)
    go_loopg [5] k (fun kq v5 w' => ∃ (x5_1 : Int), v5 = .int .i64 x5_1 ∧ Aside0 (platenlaw20_sameBytes.l0 kq l0 l1 x5_1 = some r) ∧ Aside0 (kq ≤ k) ∧ Drawn0 w w')
    case atStart => exact ⟨(0), (by first | rfl | (simp; done) | (simp [*]; done)), H', ⟨Nat.le_refl _⟩, by repeat (first | exact Drawn0.refl _ | apply Drawn0.step)⟩
    case round =>
      clear H'
      try clear c1
      try clear p2
      try clear c3
      try clear c3b0
      try clear c3b1
      try clear c3b2
      obtain ⟨x5_1, rfl, HA, HK1, ⟨m1, rfl⟩⟩ := hrel
      cases gk with
      | zero => exact absurd HA.out (by simp [platenlaw20_sameBytes.l0])
      | succ k1 =>
        have H := HA.out
        clear HA
        simp only [platenlaw20_sameBytes.l0] at H
        by_cases c4 : x5_1 < (l0.length : Int)
        · rw [if_pos c4] at H
          have c4b0 : decide (x5_1 < (l0.length : Int)) = true := decide_eq_true c4
          clear c4
          by_cases c5 : 0 ≤ x5_1
          · rw [if_pos c5] at H
            have c5b0 : decide (0 ≤ x5_1) = true := decide_eq_true c5
            clear c5
            by_cases c6 : x5_1 < (l1.length : Int)
            · rw [if_pos c6] at H
              have c6b0 : decide (x5_1 < (l1.length : Int)) = true := decide_eq_true c6
              clear c6
              by_cases c7 : (rd l0 x5_1) = (rd l1 x5_1)
              · rw [if_pos c7] at H
                have c7b0 : ((rd l0 x5_1) == (rd l1 x5_1)) = true := beq_iff_eq.mpr c7
                have c7b1 : ((rd l0 x5_1) != (rd l1 x5_1)) = false := bne_eq_false_iff_eq.mpr c7
                clear c7
                have H' := Aside0.mk H
                clear H
                have p131 : 0 ≤ (x5_1 : Int) := of_decide_eq_true (by first | (with_reducible assumption) | assumption)
                have q131 : x5_1 < (l0.length : Int) := of_decide_eq_true (by first | (with_reducible assumption) | assumption)
                obtain ⟨ad131, e131, hx131_0⟩ := Kd.at_int HR0.out x5_1 p131 q131
                cases e131
                replace p131 := eq_true p131
                replace q131 := eq_true q131
                have p132 : 0 ≤ (x5_1 : Int) := of_decide_eq_true (by first | (with_reducible assumption) | assumption)
                have q132 : x5_1 < (l1.length : Int) := of_decide_eq_true (by first | (with_reducible assumption) | assumption)
                obtain ⟨ad132, e132, hx132_0⟩ := Kd.at_int HR1.out x5_1 p132 q132
                cases e132
                replace p132 := eq_true p132
                replace q132 := eq_true q132
                go_wp2
                repeat (go_quiet (fail); try go_wp2)
                go_roundg k1
                case measure => have := HK1.out; omega
                case rel => exact ⟨(wrap64 (x5_1 + 1)), (by first | rfl | (simp; done) | (simp [*]; done)), H', ⟨by have := HK1.out; omega⟩, by repeat (first | exact Drawn0.refl _ | apply Drawn0.step)⟩
              · rw [if_neg c7] at H
                have c7b0 : ((rd l0 x5_1) == (rd l1 x5_1)) = false := beq_eq_false_iff_ne.mpr c7
                have c7b1 : ((rd l0 x5_1) != (rd l1 x5_1)) = true := bne_iff_ne.mpr c7
                obtain rfl := Option.some.inj H
                have p131 : 0 ≤ (x5_1 : Int) := of_decide_eq_true (by first | (with_reducible assumption) | assumption)
                have q131 : x5_1 < (l0.length : Int) := of_decide_eq_true (by first | (with_reducible assumption) | assumption)
                obtain ⟨ad131, e131, hx131_0⟩ := Kd.at_int HR0.out x5_1 p131 q131
                cases e131
                replace p131 := eq_true p131
                replace q131 := eq_true q131
                have p132 : 0 ≤ (x5_1 : Int) := of_decide_eq_true (by first | (with_reducible assumption) | assumption)
                have q132 : x5_1 < (l1.length : Int) := of_decide_eq_true (by first | (with_reducible assumption) | assumption)
                obtain ⟨ad132, e132, hx132_0⟩ := Kd.at_int HR1.out x5_1 p132 q132
                cases e132
                replace p132 := eq_true p132
                replace q132 := eq_true q132
                go_wp2
                repeat (go_quiet (fail); try go_wp2)
                go_ret
                exact ⟨by first | rfl | (simp; done) | (simp [*]; done), by repeat (first | exact Drawn0.refl _ | apply Drawn0.step)⟩
            · rw [if_neg c6] at H
              exact absurd H (by simp)
          · rw [if_neg c5] at H
            exact absurd H (by simp)
        · rw [if_neg c4] at H
          have c4b0 : decide (x5_1 < (l0.length : Int)) = false := decide_eq_false c4
          clear c4
          obtain rfl := Option.some.inj H
          go_wp2
          repeat (go_quiet (fail); try go_wp2)
          go_ret
          exact ⟨by first | rfl | (simp; done) | (simp [*]; done), by repeat (first | exact Drawn0.refl _ | apply Drawn0.step)⟩
  · rw [if_neg c3] at H
    have c3b0 : ((l0.length : Int) == (l1.length : Int)) = false := beq_eq_false_iff_ne.mpr c3
    have c3b1 : ((l0.length : Int) != (l1.length : Int)) = true := bne_iff_ne.mpr c3
    have c3b2 : (l0.length == l1.length) = false := by first | simpa using c3 | (simp at c3 ⊢; omega)
    obtain rfl := Option.some.inj H
    go_enter Try.func12, Try.ntmps12
    go_wp2
    repeat (go_quiet (fail); try go_wp2)
    go_ret
    exact ⟨by first | rfl | (simp; done) | (simp [*]; done), by repeat (first | exact Drawn0.refl _ | apply Drawn0.step)⟩
end Go.Proofs.Ytihiapjfdgoomaa.P
namespace Go.Proofs.Ytihiapjfdgoomaa.A
open Go.RowKit Go.Proofs.YtihiapjfdgoomaaW.PrintWords Go.Proofs.YtihiapjfdgoomaaW.PrintLast Go.Proofs.YtihiapjfdgoomaaW.PrintMore
open Go.Proofs.Ytihiapjfdgoomaa.P
set_option linter.unusedVariables false
set_option linter.unusedSimpArgs false
theorem up {α : Type} {f : Nat → Option α} (h : ∀ k, LeO (f k) (f (k + 1))) {k : Nat} {r : α} (hk : f k = some r) : ∀ k', k ≤ k' → f k' = some r := by
  intro k' hle
  induction hle with
  | refl => exact hk
  | step _ ih => exact h _ _ ih
theorem inR0 : inR 0 := ⟨by decide, by decide⟩
theorem ok_z50 : okB z50 := ⟨inR0, inR0, by decide, inR0, inR0, inR0, inR0, inR0, inR0, inR0⟩
theorem ok_z48 : okR z48 := ⟨inR0, by decide, fun _ h => nomatch h⟩
theorem ok_z45 : okP z45 := ⟨inR0, inR0, by decide, fun _ h => nomatch h⟩
theorem getD_all {α : Type} {P : α → Prop} {z : α} (hz : P z) {l : List α} (h : ∀ x ∈ l, P x) (i : Nat) : P (l.getD i z) := by
  rw [List.getD_eq_getElem?_getD]
  cases hx : l[i]? with
  | none => exact hz
  | some x => exact h x (List.mem_of_getElem? hx)
theorem ok45 {l : List S45} (h : ∀ x ∈ l, okP x) (i : Int) : okP (rd_T45 l i) := getD_all ok_z45 h _
theorem ok48 {l : List S48} (h : ∀ x ∈ l, okR x) (i : Int) : okR (rd_T48 l i) := getD_all ok_z48 h _
theorem sameRow_self (a0 : Int) (a1 a2 : Bool) (l : List S50) (hl : l.length ≤ 9223372036854775807) : ∀ k, l.length + 2 ≤ k → platenlaw20_sameRow.f k a0 a1 a2 l a0 a1 a2 l = some true := by
  have h0 : ∀ d i : Nat, i + d = l.length → platenlaw20_sameRow.l0 (d + 1) (i : Int) a0 a1 a2 l a0 a1 a2 l = some true := by
    intro d
    induction d with
    | zero => intro i hi; simp only [platenlaw20_sameRow.l0]; rw [if_neg (by omega)]
    | succ d ih =>
      intro i hi
      have hw : wrap64 ((i : Int) + 1) = ((i + 1 : Nat) : Int) := by unfold wrap64; omega
      rw [platenlaw20_sameRow.l0]
      rw [if_pos (by omega), if_pos (by omega), if_pos (by omega), if_neg (by simp), hw]
      exact ih (i + 1) (by omega)
  refine up (fun k => platenlaw20_sameRow.mono a0 a1 a2 l a0 a1 a2 l k) (k := l.length + 2) ?_
  unfold platenlaw20_sameRow.f
  rw [if_pos rfl, if_neg (by simp), if_neg (by simp)]
  simp only [platenlaw20_sameRow.j0]
  rw [if_neg (by simp)]
  exact h0 l.length 0 (by omega)
theorem same_l1 (a0 a1 a2 a3 : Int) (l : List S45) (i : Nat) (p : S45) (hp : okP p) (k0 : Nat) (hn : platenlaw20_same.l0 k0 (wrap64 ((i : Int) + 1)) a0 a1 a2 a3 l a0 a1 a2 a3 l = some true) :
    ∀ d j : Nat, j + d = p.f3.length → ∃ k, platenlaw20_same.l1 k (i : Int) (j : Int) a0 a1 a2 a3 l a0 a1 a2 a3 l p.f0 p.f1 p.f2 p.f3 p.f0 p.f1 p.f2 p.f3 = some true := by
  intro d
  induction d with
  | zero =>
    intro j hj
    refine ⟨k0 + 1, ?_⟩
    rw [platenlaw20_same.l1]
    rw [if_neg (by omega)]
    exact hn
  | succ d ih =>
    intro j hj
    obtain ⟨k, hk⟩ := ih (j + 1) (by omega)
    have hlen := hp.2.2.1
    have hw : wrap64 ((j : Int) + 1) = ((j + 1 : Nat) : Int) := by unfold wrap64; omega
    have hr := ok48 hp.2.2.2 (j : Int)
    have hs := sameRow_self (rd_T48 p.f3 (j : Int)).f0 (rd_T48 p.f3 (j : Int)).f1 (rd_T48 p.f3 (j : Int)).f2 (rd_T48 p.f3 (j : Int)).f3 (by have := hr.2.1; omega)
    obtain ⟨m, hm1, hm2⟩ : ∃ m, k ≤ m ∧ (rd_T48 p.f3 (j : Int)).f3.length + 2 ≤ m := ⟨k + ((rd_T48 p.f3 (j : Int)).f3.length + 2), by omega, by omega⟩
    have hk2 := up (f := fun k => platenlaw20_same.l1 k (i : Int) ((j + 1 : Nat) : Int) a0 a1 a2 a3 l a0 a1 a2 a3 l p.f0 p.f1 p.f2 p.f3 p.f0 p.f1 p.f2 p.f3) (fun k => (platenlaw20_same.mono_l k).2.2.2 _ _ _ _ _ _ _ _ _ _ _ _ _ _ _ _ _ _ _ _) hk m hm1
    have hs2 := hs m hm2
    refine ⟨m + 1, ?_⟩
    rw [platenlaw20_same.l1]
    rw [if_pos (by omega), if_pos (by omega), if_pos (by omega), hs2]
    simp only [Option.bind_some, if_true]
    rw [hw]
    exact hk2
theorem same_l0 (a0 a1 a2 a3 : Int) (l : List S45) (hl : l.length ≤ 9223372036854775807) (hp : ∀ x ∈ l, okP x) : ∀ d i : Nat, i + d = l.length → ∃ k, platenlaw20_same.l0 k (i : Int) a0 a1 a2 a3 l a0 a1 a2 a3 l = some true := by
  intro d
  induction d with
  | zero =>
    intro i hi
    refine ⟨1, ?_⟩
    rw [platenlaw20_same.l0]
    rw [if_neg (by omega)]
  | succ d ih =>
    intro i hi
    have hw : wrap64 ((i : Int) + 1) = ((i + 1 : Nat) : Int) := by unfold wrap64; omega
    have hok := ok45 hp (i : Int)
    obtain ⟨k0, hk0⟩ := ih (i + 1) (by omega)
    obtain ⟨k, hk⟩ := same_l1 a0 a1 a2 a3 l i (rd_T45 l (i : Int)) hok k0 (by rw [hw]; exact hk0) (rd_T45 l (i : Int)).f3.length 0 (by omega)
    refine ⟨k + 1 + 1, ?_⟩
    rw [platenlaw20_same.l0]
    rw [if_pos (by omega), if_pos (by omega), if_pos (by omega), if_pos rfl, if_pos rfl, if_neg (by simp)]
    rw [platenlaw20_same.j2]
    rw [if_neg (by simp)]
    exact hk
theorem same_self (a0 a1 a2 a3 : Int) (l : List S45) (hl : l.length ≤ 9223372036854775807) (hp : ∀ x ∈ l, okP x) : ∃ K, ∀ k, K ≤ k → platenlaw20_same.f k a0 a1 a2 a3 l a0 a1 a2 a3 l = some true := by
  obtain ⟨k, hk⟩ := same_l0 a0 a1 a2 a3 l hl hp l.length 0 (by omega)
  refine ⟨k + 1, up (f := fun k => platenlaw20_same.f k a0 a1 a2 a3 l a0 a1 a2 a3 l) (fun k => platenlaw20_same.mono _ _ _ _ _ _ _ _ _ _ k) ?_⟩
  unfold platenlaw20_same.f
  rw [if_neg (by simp), if_pos rfl, if_pos rfl]
  rw [platenlaw20_same.j0]
  rw [if_neg (by simp)]
  exact hk
theorem sameBytes_self (l : List Int) (hl : l.length ≤ 9223372036854775807) : ∀ k, l.length + 1 ≤ k → platenlaw20_sameBytes.f k l l = some true := by
  have h0 : ∀ d i : Nat, i + d = l.length → platenlaw20_sameBytes.l0 (d + 1) l l (i : Int) = some true := by
    intro d
    induction d with
    | zero => intro i hi; simp only [platenlaw20_sameBytes.l0]; rw [if_neg (by omega)]
    | succ d ih =>
      intro i hi
      have hw : wrap64 ((i : Int) + 1) = ((i + 1 : Nat) : Int) := by unfold wrap64; omega
      rw [platenlaw20_sameBytes.l0]
      rw [if_pos (by omega), if_pos (by omega), if_pos (by omega), if_pos rfl, hw]
      exact ih (i + 1) (by omega)
  refine up (fun k => platenlaw20_sameBytes.mono l l k) (k := l.length + 1) ?_
  unfold platenlaw20_sameBytes.f
  rw [if_pos rfl]
  exact h0 l.length 0 (by omega)
end Go.Proofs.Ytihiapjfdgoomaa.A
namespace Go.Proofs.Ytihiapjfdgoomaa.P
open Go.RowKit Go.Proofs.YtihiapjfdgoomaaW.PrintWords Go.Proofs.YtihiapjfdgoomaaW.PrintLast Go.Proofs.YtihiapjfdgoomaaW.PrintMore
attribute [local go_sem] max2_int min2_int max_two min_two max_three min_three max_four min_four   -- for this text's walks alone
set_option linter.unusedVariables false
set_option linter.unusedSimpArgs false
-- NOT PRINTED: function 6 (platenlaw20_AnswerTurned)
def platenref20_Number.l0 : Nat → List Int → Int → Int → Option (List Int)
  | 0, _, _, _ => none
  | k + 1, x0, x1, x5 => if x5 ≥ 0 then (if 0 ≤ (wrap64 (8 * x5)) then (if x0.length < 140737488355328 then (platenref20_Number.l0 k (x0 ++ [(shr .u64 x1 (wrap64 (8 * x5))) % 256]) x1 (wrap64 (x5 - 1))) else (none)) else (none)) else (some x0)
def platenref20_Number.f (k : Nat) (l0 : List Int) (a1 : Int) : Option (List Int) := platenref20_Number.l0 k l0 a1 7
theorem platenref20_Number.mono_l : ∀ k, (∀ y0 y1 y2, LeO (platenref20_Number.l0 k y0 y1 y2) (platenref20_Number.l0 (k + 1) y0 y1 y2))
  | 0 => fun _ _ _ r h => by simp [platenref20_Number.l0] at h
  | k + 1 => by
    have ih0 := platenref20_Number.mono_l k
    · intro y0 y1 y2
      unfold platenref20_Number.l0
      repeat' first
      | (with_reducible exact ih0 _ _ _)
      | (with_reducible exact LeO.refl _)
      | (with_reducible exact LeO.none _)
      | (with_reducible refine LeO.ite ?_ ?_)
      | (with_reducible refine LeO.bind ?_ (fun _ => ?_))
      | exact ih0 _ _ _
      | exact LeO.none _
      | refine LeO.ite ?_ ?_
      | refine LeO.bind ?_ (fun _ => ?_)
theorem platenref20_Number.mono : ∀ a0 a1 k, LeO (platenref20_Number.f k a0 a1) (platenref20_Number.f (k + 1) a0 a1) := by
  intro a0 a1 k
  have ih0 := platenref20_Number.mono_l k
  unfold platenref20_Number.f
  repeat' first
      | (with_reducible exact ih0 _ _ _)
      | (with_reducible exact LeO.refl _)
      | (with_reducible exact LeO.none _)
      | (with_reducible refine LeO.ite ?_ ?_)
      | (with_reducible refine LeO.bind ?_ (fun _ => ?_))
      | exact ih0 _ _ _
      | exact LeO.none _
      | refine LeO.ite ?_ ?_
      | refine LeO.bind ?_ (fun _ => ?_)
set_option maxHeartbeats 8000000 in
set_option maxRecDepth 100000 in
theorem platenref20_Number.calls (k : Nat) (P0_ : Nat → Prop) (u9000_ : Value) (l0 : List Int) (a1 : Int) (r : List Int) (w0 w : World) (hB : Below w0.heap.size w0 w) (ho0 : Kd.R (Kd.int .u8) 5 w w0.heap.size P0_ u9000_ l0) (h : platenref20_Number.f k l0 a1 = some r) :
    Calls Try.prog 27 #[u9000_, .int .u64 a1] w fun e w' => ∃ v0_ : Value, e = .returned (v0_) ∧ Kd.R (Kd.int .u8) 5 w' w0.heap.size (fun k_ => (P0_ k_ ∨ w.heap.size ≤ k_)) v0_ r ∧ Below w0.heap.size w0 w' ∧ Kept w w' (fun k_ => P0_ k_) := by
  have HO0 := Aside0.mk (show Kd.R (Kd.int .u8) 5 w w0.heap.size (fun k_ => (P0_ k_ ∨ w.heap.size ≤ k_)) u9000_ l0 from Kd.R_mono ho0 (fun k_ hk => (.inl hk)))
  have HK := Aside0.mk (Kept.refl w (fun k_ => P0_ k_))
  have HW0 := Aside0.mk hB.size
  have HB := Aside0.mk hB
  clear hB
  have H : (platenref20_Number.l0 k l0 a1 7) = some r := h
  clear h
  have H' := Aside0.mk H
  clear H
  go_enter Try.func27, Try.ntmps27
  go_wp2
  go_loopg [0, 5] k (fun kq v0 v5 w' => ∃ (x0_1 : List Int) (x5_1 : Int), v5 = .int .i64 x5_1 ∧ Aside0 (platenref20_Number.l0 kq x0_1 a1 x5_1 = some r) ∧ Aside0 (kq ≤ k) ∧ Aside0 (Kd.R (Kd.int .u8) 5 w' w0.heap.size (fun k_ => (P0_ k_ ∨ w.heap.size ≤ k_)) v0 x0_1) ∧ Aside0 (Kept w w' (fun k_ => P0_ k_)) ∧ Aside0 (Below w0.heap.size w0 w'))
  case atStart => exact ⟨(l0), (7), (by first | rfl | (simp; done) | (simp [*]; done)), H', ⟨Nat.le_refl _⟩, ⟨by (with_reducible repeat (first | apply Kd.R_alloc | apply Kd.R_drewN | apply Kd.R_drew)); exact HO0.out⟩, ⟨by repeat (first | (with_reducible first | exact HK.out | apply Kept.alloc | apply Kept.drewN | apply Kept.drew) | exact HK.out)⟩, ⟨by repeat (first | (with_reducible first | exact HB.out | apply below_alloc | apply pw_below_drewN | apply below_drew1) | exact HB.out)⟩⟩
  case round =>
    clear H'
    try clear c2
    try clear p2
    obtain ⟨x0_1, x5_1, rfl, HA, HK1, HO_0, HK, HB⟩ := hrel
    cases gk with
    | zero => exact absurd HA.out (by simp [platenref20_Number.l0])
    | succ k1 =>
      have H := HA.out
      clear HA
      simp only [platenref20_Number.l0] at H
      by_cases c3 : x5_1 ≥ 0
      · rw [if_pos c3] at H
        have c3b0 : decide (0 ≤ x5_1) = true := decide_eq_true c3
        clear c3
        obtain ⟨ji4, hji4⟩ : ∃ j_ : Int, (wrap64 (8 * x5_1)) = j_ := ⟨_, rfl⟩
        replace H : (if 0 ≤ (ji4) then (if x0_1.length < 140737488355328 then (platenref20_Number.l0 k1 (x0_1 ++ [(shr .u64 a1 (ji4)) % 256]) a1 (wrap64 (x5_1 - 1))) else (none)) else (none)) = some r := by first | (rw [hji4] at H; exact H) | (simp only [hji4] at H ⊢; exact H)
        have hji4w : (IntKind.i64.wrap (8 * x5_1)) = ji4 := (i64_w _).trans hji4
        by_cases c5 : 0 ≤ (ji4)
        · rw [if_pos c5] at H
          have c5b0 := eq_true c5
          have c5b1 : decide (0 ≤ (ji4)) = true := decide_eq_true c5
          clear c5
          obtain ⟨ji6, hji6⟩ : ∃ j_ : Int, (shr .u64 a1 (ji4)) = j_ := ⟨_, rfl⟩
          replace H : (if x0_1.length < 140737488355328 then (platenref20_Number.l0 k1 (x0_1 ++ [(ji6) % 256]) a1 (wrap64 (x5_1 - 1))) else (none)) = some r := by first | (rw [hji6] at H; exact H) | (simp only [hji6] at H ⊢; exact H)
          have hji6_ : (a1 / 2 ^ min (ji4).toNat 64) = ji6 := hji6
          have hji6z : (ji4) ≤ 64 → (a1 / 2 ^ (ji4).toNat) = ji6 := shr_small hji6
          by_cases c7 : x0_1.length < 140737488355328
          · rw [if_pos c7] at H
            have LMc7 := Aside0.mk c7
            clear c7
            obtain ⟨y214, hy214⟩ : ∃ y_ : List Int, y_ = (x0_1 ++ [(ji6) % 256]) := ⟨_, rfl⟩
            replace H : (platenref20_Number.l0 k1 y214 a1 (wrap64 (x5_1 - 1))) = some r := by first | (rw [hy214]; with_reducible exact H) | (have H2_ := (Option.bind_some _ _).symm.trans H; rw [hy214]; with_reducible exact H2_) | (have H2_ := (Option.bind_some _ _).symm.trans H; with_reducible exact H2_) | with_reducible exact H | (rw [hy214]; exact H) | exact H
            have Ny214 := Aside0.mk hy214
            clear hy214
            have H' := Aside0.mk H
            clear H
            go_wp2_with (first | ((with_reducible refine gate_builtin (b := .append) (xs := #[.tmp 10, .tmp 16]) rfl ?_); at_builtin; refine Kd.R_append (Kd.int .u8) (w0 := w0) w0.heap.size rfl (.tmp 10) (.tmp 16) 32 5 (.int .u8 0) 1 rfl Try.underlying32 info5 rfl (by decide) (by omega) u0 x0_1 ((ji6) % 256) [.int .u8 ((ji6) % 256)] (fun k_ => (P0_ k_ ∨ w.heap.size ≤ k_)) (fun _ => False) rfl rfl ?aP (fun _ hk => hk.elim) ?aF ?aO ?aB ?aS ?aL ?_; (case aP => exact rfl); (case aB => exact (by repeat (first | (with_reducible first | exact HB.out | apply below_alloc | apply pw_below_drewN | apply below_drew1) | exact HB.out))); (case aF => exact (fun k_ hk => (.inr (Nat.le_trans (by first | exact HK.out.1 | exact (show Kept w _ (fun k_ => P0_ k_) from by repeat (first | (with_reducible first | exact HK.out | apply Kept.alloc | apply Kept.drewN | apply Kept.drew) | exact HK.out)).1) hk)))); (case aO => exact (by (with_reducible repeat (first | apply Kd.R_alloc | apply Kd.R_drewN | apply Kd.R_drew)); exact HO_0.out)); (case aS => exact (below_size (by repeat (first | (with_reducible first | exact HB.out | apply below_alloc | apply pw_below_drewN | apply below_drew1) | exact HB.out)))); (case aL => have := LMc7.out; omega); intro v215 w8 ho hb hg hat; rw [← Ny214.out] at ho; have n0_ := Aside0.mk (hb); have n1_ := Aside0.mk (Kept.of_grown (S := (fun k_ => P0_ k_)) hg (by repeat (first | (with_reducible first | exact HK.out | apply Kept.alloc | apply Kept.drewN | apply Kept.drew) | exact HK.out)) (fun k_ e_ => (HO_0.out.1 k_ e_))); have n2_ := Aside0.mk (ho); clear HB; clear HK; clear HO_0; have HB := n0_; have HK := n1_; have HO216 := n2_; clear n0_ n1_ n2_; clear ho hb hg hat))
            go_roundg k1
            case measure => have := HK1.out; omega
            case rel => exact ⟨(y214), (wrap64 (x5_1 - 1)), (by first | rfl | (simp; done) | (simp [*]; done)), H', ⟨by have := HK1.out; omega⟩, ⟨by (with_reducible repeat (first | apply Kd.R_alloc | apply Kd.R_drewN | apply Kd.R_drew)); exact HO216.out⟩, ⟨by repeat (first | (with_reducible first | exact HK.out | apply Kept.alloc | apply Kept.drewN | apply Kept.drew) | exact HK.out)⟩, ⟨by repeat (first | (with_reducible first | exact HB.out | apply below_alloc | apply pw_below_drewN | apply below_drew1) | exact HB.out)⟩⟩
          · rw [if_neg c7] at H
            exact absurd H (by simp)
        · rw [if_neg c5] at H
          exact absurd H (by simp)
      · rw [if_neg c3] at H
        have c3b0 : decide (0 ≤ x5_1) = false := decide_eq_false c3
        clear c3
        obtain rfl := Option.some.inj H
        go_wp2
        go_ret
        exact ⟨_, by first | rfl | (simp [errW_none, errW_some] <;> rfl) | (simp [*, errW_none, errW_some] <;> rfl), by (with_reducible repeat (first | apply Kd.R_alloc | apply Kd.R_drewN | apply Kd.R_drew)); exact HO_0.out, by repeat (first | (with_reducible first | exact HB.out | apply below_alloc | apply pw_below_drewN | apply below_drew1) | exact HB.out), by repeat (first | (with_reducible first | exact HK.out | apply Kept.alloc | apply Kept.drewN | apply Kept.drew) | exact HK.out)⟩
attribute [local go_sem] max2_int min2_int max_two min_two max_three min_three max_four min_four   -- for this text's walks alone
def platenref20_numbers.l0 : Nat → List Int → List Int → Int → Option (List Int)
  | 0, _, _, _ => none
  | k + 1, x0, x1, x5 => if x5 < (x1.length : Int) then (if 0 ≤ x5 then ((platenref20_Number.f k x0 (IntKind.u64.wrap (rd x1 x5))).bind fun t218 => (platenref20_numbers.l0 k t218 x1 (wrap64 (x5 + 1)))) else (none)) else (some x0)
def platenref20_numbers.f (k : Nat) (l0 : List Int) (l1 : List Int) : Option (List Int) := platenref20_numbers.l0 k l0 l1 0
theorem platenref20_numbers.mono_l : ∀ k, (∀ y0 y1 y2, LeO (platenref20_numbers.l0 k y0 y1 y2) (platenref20_numbers.l0 (k + 1) y0 y1 y2))
  | 0 => fun _ _ _ r h => by simp [platenref20_numbers.l0] at h
  | k + 1 => by
    have ih0 := platenref20_numbers.mono_l k
    · intro y0 y1 y2
      unfold platenref20_numbers.l0
      repeat' first
      | (with_reducible exact ih0 _ _ _)
      | (with_reducible exact platenref20_Number.mono _ _ _)
      | (with_reducible exact LeO.refl _)
      | (with_reducible exact LeO.none _)
      | (with_reducible refine LeO.ite ?_ ?_)
      | (with_reducible refine LeO.bind ?_ (fun _ => ?_))
      | exact ih0 _ _ _
      | exact platenref20_Number.mono _ _ _
      | exact LeO.none _
      | refine LeO.ite ?_ ?_
      | refine LeO.bind ?_ (fun _ => ?_)
theorem platenref20_numbers.mono : ∀ a0 a1 k, LeO (platenref20_numbers.f k a0 a1) (platenref20_numbers.f (k + 1) a0 a1) := by
  intro a0 a1 k
  have ih0 := platenref20_numbers.mono_l k
  unfold platenref20_numbers.f
  repeat' first
      | (with_reducible exact ih0 _ _ _)
      | (with_reducible exact platenref20_Number.mono _ _ _)
      | (with_reducible exact LeO.refl _)
      | (with_reducible exact LeO.none _)
      | (with_reducible refine LeO.ite ?_ ?_)
      | (with_reducible refine LeO.bind ?_ (fun _ => ?_))
      | exact ih0 _ _ _
      | exact platenref20_Number.mono _ _ _
      | exact LeO.none _
      | refine LeO.ite ?_ ?_
      | refine LeO.bind ?_ (fun _ => ?_)
set_option maxHeartbeats 8000000 in
set_option maxRecDepth 100000 in
theorem platenref20_numbers.calls (k : Nat) (P0_ : Nat → Prop) (u9000_ : Value) (l0 : List Int) (A1 : Option Addr) (c1 : Nat) (l1 : List Int) (r : List Int) (w0 w : World) (hB : Below w0.heap.size w0 w) (ho0 : Kd.R (Kd.int .u8) 5 w w0.heap.size P0_ u9000_ l0) (hr1 : ∀ W_, Kept w W_ (fun k_ => P0_ k_) → Kd.C (Kd.int .i64) W_ A1 l1.length l1) (hc1 : l1.length ≤ c1) (h : platenref20_numbers.f k l0 l1 = some r) :
    Calls Try.prog 24 #[u9000_, .slice A1 l1.length c1] w fun e w' => ∃ v0_ : Value, e = .returned (v0_) ∧ Kd.R (Kd.int .u8) 5 w' w0.heap.size (fun k_ => (P0_ k_ ∨ w.heap.size ≤ k_)) v0_ r ∧ Below w0.heap.size w0 w' ∧ Kept w w' (fun k_ => P0_ k_) := by
  have HO0 := Aside0.mk (show Kd.R (Kd.int .u8) 5 w w0.heap.size (fun k_ => (P0_ k_ ∨ w.heap.size ≤ k_)) u9000_ l0 from Kd.R_mono ho0 (fun k_ hk => (.inl hk)))
  have HR1 := Aside0.mk hr1
  have HC1 := Aside0.mk hc1
  clear hr1 hc1
  have HK := Aside0.mk (Kept.refl w (fun k_ => P0_ k_))
  have HW0 := Aside0.mk hB.size
  have HB := Aside0.mk hB
  clear hB
  have H : (platenref20_numbers.l0 k l0 l1 0) = some r := h
  clear h
  have H' := Aside0.mk H
  clear H
  go_enter Try.func24, Try.ntmps24
  go_wp2
  go_loopg [0, 5] k (fun kq v0 v5 w' => ∃ (x0_1 : List Int) (x5_1 : Int), v5 = .int .i64 x5_1 ∧ Aside0 (platenref20_numbers.l0 kq x0_1 l1 x5_1 = some r) ∧ Aside0 (kq ≤ k) ∧ Aside0 (Kd.R (Kd.int .u8) 5 w' w0.heap.size (fun k_ => (P0_ k_ ∨ w.heap.size ≤ k_)) v0 x0_1) ∧ Aside0 (Kept w w' (fun k_ => P0_ k_)) ∧ Aside0 (Below w0.heap.size w0 w'))
  case atStart => exact ⟨(l0), (0), (by first | rfl | (simp; done) | (simp [*]; done)), H', ⟨Nat.le_refl _⟩, ⟨by (with_reducible repeat (first | apply Kd.R_alloc | apply Kd.R_drewN | apply Kd.R_drew)); exact HO0.out⟩, ⟨by repeat (first | (with_reducible first | exact HK.out | apply Kept.alloc | apply Kept.drewN | apply Kept.drew) | exact HK.out)⟩, ⟨by repeat (first | (with_reducible first | exact HB.out | apply below_alloc | apply pw_below_drewN | apply below_drew1) | exact HB.out)⟩⟩
  case round =>
    clear H'
    try clear c1
    try clear c2
    try clear p2
    obtain ⟨x0_1, x5_1, rfl, HA, HK1, HO_0, HK, HB⟩ := hrel
    cases gk with
    | zero => exact absurd HA.out (by simp [platenref20_numbers.l0])
    | succ k1 =>
      have H := HA.out
      clear HA
      simp only [platenref20_numbers.l0] at H
      by_cases c3 : x5_1 < (l1.length : Int)
      · rw [if_pos c3] at H
        have c3b0 : decide (x5_1 < (l1.length : Int)) = true := decide_eq_true c3
        clear c3
        by_cases c4 : 0 ≤ x5_1
        · rw [if_pos c4] at H
          have c4b0 : decide (0 ≤ x5_1) = true := decide_eq_true c4
          clear c4
          replace H := Option.bind_eq_some_iff.mp H
          obtain ⟨t218, A50, H⟩ := H
          replace H : (platenref20_numbers.l0 k1 t218 l1 (wrap64 (x5_1 + 1))) = some r := H
          have A5 := Aside0.mk A50
          clear A50
          have H' := Aside0.mk H
          clear H
          have p217 : 0 ≤ (x5_1 : Int) := of_decide_eq_true (by first | (with_reducible assumption) | assumption)
          have q217 : x5_1 < (l1.length : Int) := of_decide_eq_true (by first | (with_reducible assumption) | assumption)
          obtain ⟨ad217, e217, hx217_0⟩ := Kd.at_int (Kd.C_kept_now HR1.out HK.out) x5_1 p217 q217
          cases e217
          replace p217 := eq_true p217
          replace q217 := eq_true q217
          obtain ⟨Ao6, co6, eo6⟩ := Kd.R_slice HO_0.out
          subst eo6
          go_wp2_with (first | ((with_reducible refine gate_callee (f := 27) rfl ?_); refine goesL_ (some 18) rfl rfl Try.func27 (by kernel_rfl) rfl #[.slice Ao6 x0_1.length co6, .int .u64 (IntKind.u64.wrap (rd l1 x5_1))] rfl (by (try simp only [List.map_toArray, List.map_cons, List.map_nil]); first | done | rfl | (simp only [List.length_drop, List.length_take]; rfl)) ?_; (with_reducible refine (platenref20_Number.calls k1 (fun k_ => some k_ = (.slice Ao6 x0_1.length co6 : Value).ownBlock) (.slice Ao6 x0_1.length co6) x0_1 (IntKind.u64.wrap (rd l1 x5_1)) t218 w0 _ ?side1 ?side2 A5.out).mono ?_); (case side1 => repeat (first | (with_reducible first | exact HB.out | apply below_alloc | apply pw_below_drewN | apply below_drew1) | exact HB.out)); (case side2 => exact Kd.R_tight rfl HO_0.out); rintro e w7 ⟨v219, rfl, ho0, hb, hkp⟩; refine ⟨_, rfl, ?_⟩; have n0_ := Aside0.mk (Kd.R_mono (ok' := fun k_ => (P0_ k_ ∨ w.heap.size ≤ k_)) ho0 (fun k_ hk_ => Or.elim hk_ (fun hs_ => (HO_0.out.1 k_ (hs_).symm)) (fun hn_ => (.inr (Nat.le_trans (by first | exact HK.out.1 | exact (show Kept w _ (fun k_ => P0_ k_) from by repeat (first | (with_reducible first | exact HK.out | apply Kept.alloc | apply Kept.drewN | apply Kept.drew) | exact HK.out)).1) hn_))))); have n1_ := Aside0.mk (Kept.then_ (S := (fun k_ => P0_ k_)) (by repeat (first | (with_reducible first | exact HK.out | apply Kept.alloc | apply Kept.drewN | apply Kept.drew) | exact HK.out)) hkp (fun k_ hs_ => (fun e_ => (HO_0.out.1 k_ e_.symm)) hs_)); have n2_ := Aside0.mk (hb); clear HK; clear HB; clear HO_0; have HO220 := n0_; have HK := n1_; have HB := n2_; clear n0_ n1_ n2_; (try clear hb); (try clear hkp); (try clear ho0)))
          go_roundg k1
          case measure => have := HK1.out; omega
          case rel => exact ⟨(t218), (wrap64 (x5_1 + 1)), (by first | rfl | (simp; done) | (simp [*]; done)), H', ⟨by have := HK1.out; omega⟩, ⟨by (with_reducible repeat (first | apply Kd.R_alloc | apply Kd.R_drewN | apply Kd.R_drew)); exact HO220.out⟩, ⟨by repeat (first | (with_reducible first | exact HK.out | apply Kept.alloc | apply Kept.drewN | apply Kept.drew) | exact HK.out)⟩, ⟨by repeat (first | (with_reducible first | exact HB.out | apply below_alloc | apply pw_below_drewN | apply below_drew1) | exact HB.out)⟩⟩
        · rw [if_neg c4] at H
          exact absurd H (by simp)
      · rw [if_neg c3] at H
        have c3b0 : decide (x5_1 < (l1.length : Int)) = false := decide_eq_false c3
        clear c3
        obtain rfl := Option.some.inj H
        go_wp2
        go_ret
        exact ⟨_, by first | rfl | (simp [errW_none, errW_some] <;> rfl) | (simp [*, errW_none, errW_some] <;> rfl), by (with_reducible repeat (first | apply Kd.R_alloc | apply Kd.R_drewN | apply Kd.R_drew)); exact HO_0.out, by repeat (first | (with_reducible first | exact HB.out | apply below_alloc | apply pw_below_drewN | apply below_drew1) | exact HB.out), by repeat (first | (with_reducible first | exact HK.out | apply Kept.alloc | apply Kept.drewN | apply Kept.drew) | exact HK.out)⟩
attribute [local go_sem] max2_int min2_int max_two min_two max_three min_three max_four min_four   -- for this text's walks alone
def platenref20_truth.f (l0 : List Int) (a1 : Bool) : Option (List Int) := if a1 = true then (if l0.length < 140737488355328 then (some (l0 ++ [1])) else (none)) else (if l0.length < 140737488355328 then (some (l0 ++ [0])) else (none))
set_option maxHeartbeats 8000000 in
set_option maxRecDepth 100000 in
theorem platenref20_truth.calls (P0_ : Nat → Prop) (u9000_ : Value) (l0 : List Int) (a1 : Bool) (r : List Int) (w0 w : World) (hB : Below w0.heap.size w0 w) (ho0 : Kd.R (Kd.int .u8) 5 w w0.heap.size P0_ u9000_ l0) (h : platenref20_truth.f l0 a1 = some r) :
    Calls Try.prog 25 #[u9000_, .bool a1] w fun e w' => ∃ v0_ : Value, e = .returned (v0_) ∧ Kd.R (Kd.int .u8) 5 w' w0.heap.size (fun k_ => (P0_ k_ ∨ w.heap.size ≤ k_)) v0_ r ∧ Below w0.heap.size w0 w' ∧ Kept w w' (fun k_ => P0_ k_) := by
  have HO0 := Aside0.mk (show Kd.R (Kd.int .u8) 5 w w0.heap.size (fun k_ => (P0_ k_ ∨ w.heap.size ≤ k_)) u9000_ l0 from Kd.R_mono ho0 (fun k_ hk => (.inl hk)))
  have HK := Aside0.mk (Kept.refl w (fun k_ => P0_ k_))
  have HW0 := Aside0.mk hB.size
  have HB := Aside0.mk hB
  clear hB
  have H : (if a1 = true then (if l0.length < 140737488355328 then (some (l0 ++ [1])) else (none)) else (if l0.length < 140737488355328 then (some (l0 ++ [0])) else (none))) = some r := h
  clear h
  by_cases c3 : a1 = true
  · subst c3
    have H1 : (if l0.length < 140737488355328 then (some (l0 ++ [1])) else (none)) = some r := by rw [if_pos rfl] at H; exact H
    clear H
    have H := H1
    clear H1
    by_cases c4 : l0.length < 140737488355328
    · rw [if_pos c4] at H
      have LMc4 := Aside0.mk c4
      clear c4
      obtain ⟨y221, hy221⟩ : ∃ y_ : List Int, y_ = (l0 ++ [1]) := ⟨_, rfl⟩
      replace H : (some y221) = some r := by first | (rw [hy221]; with_reducible exact H) | (have H2_ := (Option.bind_some _ _).symm.trans H; rw [hy221]; with_reducible exact H2_) | (have H2_ := (Option.bind_some _ _).symm.trans H; with_reducible exact H2_) | with_reducible exact H | (rw [hy221]; exact H) | exact H
      have Ny221 := Aside0.mk hy221
      clear hy221
      obtain rfl := Option.some.inj H
      go_enter Try.func25, Try.ntmps25
      go_wp2_with (first | ((with_reducible refine gate_builtin (b := .append) (xs := #[.tmp 6, .tmp 7]) rfl ?_); at_builtin; refine Kd.R_append (Kd.int .u8) (w0 := w0) w0.heap.size rfl (.tmp 6) (.tmp 7) 32 5 (.int .u8 0) 1 rfl Try.underlying32 info5 rfl (by decide) (by omega) u9000_ l0 1 [.int .u8 1] (fun k_ => (P0_ k_ ∨ w.heap.size ≤ k_)) (fun _ => False) rfl rfl ?aP (fun _ hk => hk.elim) ?aF ?aO ?aB ?aS ?aL ?_; (case aP => exact rfl); (case aB => exact (by repeat (first | (with_reducible first | exact HB.out | apply below_alloc | apply pw_below_drewN | apply below_drew1) | exact HB.out))); (case aF => exact (fun k_ hk => (.inr (Nat.le_trans (by first | exact HK.out.1 | exact (show Kept w _ (fun k_ => P0_ k_) from by repeat (first | (with_reducible first | exact HK.out | apply Kept.alloc | apply Kept.drewN | apply Kept.drew) | exact HK.out)).1) hk)))); (case aO => exact (by (with_reducible repeat (first | apply Kd.R_alloc | apply Kd.R_drewN | apply Kd.R_drew)); exact HO0.out)); (case aS => exact (below_size (by repeat (first | (with_reducible first | exact HB.out | apply below_alloc | apply pw_below_drewN | apply below_drew1) | exact HB.out)))); (case aL => have := LMc4.out; omega); intro v222 w5 ho hb hg hat; rw [← Ny221.out] at ho; have n0_ := Aside0.mk (hb); have n1_ := Aside0.mk (Kept.of_grown (S := (fun k_ => P0_ k_)) hg (by repeat (first | (with_reducible first | exact HK.out | apply Kept.alloc | apply Kept.drewN | apply Kept.drew) | exact HK.out)) (fun k_ e_ => (HO0.out.1 k_ e_))); have n2_ := Aside0.mk (ho); clear HB; clear HK; clear HO0; have HB := n0_; have HK := n1_; have HO223 := n2_; clear n0_ n1_ n2_; clear ho hb hg hat))
      go_ret
      exact ⟨_, by first | rfl | (simp [errW_none, errW_some] <;> rfl) | (simp [*, errW_none, errW_some] <;> rfl), by (with_reducible repeat (first | apply Kd.R_alloc | apply Kd.R_drewN | apply Kd.R_drew)); exact HO223.out, by repeat (first | (with_reducible first | exact HB.out | apply below_alloc | apply pw_below_drewN | apply below_drew1) | exact HB.out), by repeat (first | (with_reducible first | exact HK.out | apply Kept.alloc | apply Kept.drewN | apply Kept.drew) | exact HK.out)⟩
    · rw [if_neg c4] at H
      exact absurd H (by simp)
  · replace c3 := Bool.eq_false_iff.mpr c3
    subst c3
    have H1 : (if l0.length < 140737488355328 then (some (l0 ++ [0])) else (none)) = some r := by rw [if_neg (show ¬ (false = true) by decide)] at H; exact H
    clear H
    have H := H1
    clear H1
    by_cases c6 : l0.length < 140737488355328
    · rw [if_pos c6] at H
      have LMc6 := Aside0.mk c6
      clear c6
      obtain ⟨y224, hy224⟩ : ∃ y_ : List Int, y_ = (l0 ++ [0]) := ⟨_, rfl⟩
      replace H : (some y224) = some r := by first | (rw [hy224]; with_reducible exact H) | (have H2_ := (Option.bind_some _ _).symm.trans H; rw [hy224]; with_reducible exact H2_) | (have H2_ := (Option.bind_some _ _).symm.trans H; with_reducible exact H2_) | with_reducible exact H | (rw [hy224]; exact H) | exact H
      have Ny224 := Aside0.mk hy224
      clear hy224
      obtain rfl := Option.some.inj H
      go_enter Try.func25, Try.ntmps25
      go_wp2_with (first | ((with_reducible refine gate_builtin (b := .append) (xs := #[.tmp 9, .tmp 10]) rfl ?_); at_builtin; refine Kd.R_append (Kd.int .u8) (w0 := w0) w0.heap.size rfl (.tmp 9) (.tmp 10) 32 5 (.int .u8 0) 1 rfl Try.underlying32 info5 rfl (by decide) (by omega) u9000_ l0 0 [.int .u8 0] (fun k_ => (P0_ k_ ∨ w.heap.size ≤ k_)) (fun _ => False) rfl rfl ?aP (fun _ hk => hk.elim) ?aF ?aO ?aB ?aS ?aL ?_; (case aP => exact rfl); (case aB => exact (by repeat (first | (with_reducible first | exact HB.out | apply below_alloc | apply pw_below_drewN | apply below_drew1) | exact HB.out))); (case aF => exact (fun k_ hk => (.inr (Nat.le_trans (by first | exact HK.out.1 | exact (show Kept w _ (fun k_ => P0_ k_) from by repeat (first | (with_reducible first | exact HK.out | apply Kept.alloc | apply Kept.drewN | apply Kept.drew) | exact HK.out)).1) hk)))); (case aO => exact (by (with_reducible repeat (first | apply Kd.R_alloc | apply Kd.R_drewN | apply Kd.R_drew)); exact HO0.out)); (case aS => exact (below_size (by repeat (first | (with_reducible first | exact HB.out | apply below_alloc | apply pw_below_drewN | apply below_drew1) | exact HB.out)))); (case aL => have := LMc6.out; omega); intro v225 w7 ho hb hg hat; rw [← Ny224.out] at ho; have n0_ := Aside0.mk (hb); have n1_ := Aside0.mk (Kept.of_grown (S := (fun k_ => P0_ k_)) hg (by repeat (first | (with_reducible first | exact HK.out | apply Kept.alloc | apply Kept.drewN | apply Kept.drew) | exact HK.out)) (fun k_ e_ => (HO0.out.1 k_ e_))); have n2_ := Aside0.mk (ho); clear HB; clear HK; clear HO0; have HB := n0_; have HK := n1_; have HO226 := n2_; clear n0_ n1_ n2_; clear ho hb hg hat))
      go_ret
      exact ⟨_, by first | rfl | (simp [errW_none, errW_some] <;> rfl) | (simp [*, errW_none, errW_some] <;> rfl), by (with_reducible repeat (first | apply Kd.R_alloc | apply Kd.R_drewN | apply Kd.R_drew)); exact HO226.out, by repeat (first | (with_reducible first | exact HB.out | apply below_alloc | apply pw_below_drewN | apply below_drew1) | exact HB.out), by repeat (first | (with_reducible first | exact HK.out | apply Kept.alloc | apply Kept.drewN | apply Kept.drew) | exact HK.out)⟩
    · rw [if_neg c6] at H
      exact absurd H (by simp)
end Go.Proofs.Ytihiapjfdgoomaa.P
namespace Go.Proofs.Ytihiapjfdgoomaa.A
open Go.RowKit Go.Proofs.YtihiapjfdgoomaaW.PrintWords Go.Proofs.YtihiapjfdgoomaaW.PrintLast Go.Proofs.YtihiapjfdgoomaaW.PrintMore
open Go.Proofs.Ytihiapjfdgoomaa.P
set_option linter.unusedVariables false
set_option linter.unusedSimpArgs false
theorem append_str_lies {P : Program} (w : World) (base : Nat) (t u ty e : TypeId) (i : TypeInfo) (ht : P.underlying t = some (.slice e)) (hu : P.underlying u = some .string) (hi : P.info? e = some i) (hz : i.zero = some (.int .u8 0))
    (hsize : i.size = 1) (hby : i.bytes = 1) (v : Value) (n : Nat) (xs : List Value) (hown : w.ownsRow base e 1 v n xs) (s : ByteArray) (hb : n + s.size ≤ 140737488355328) (hbase : base ≤ w.heap.size) {v' : Value} {w' : World}
    (hr : (Builtin.append_ #[t, u] ty #[v, .string s]).run P w = .ok v' w') : v'.ownBlock = v.ownBlock ∨ ∃ b, v'.ownBlock = some b ∧ w.heap.size ≤ b := by
  have hxl : xs.length = n := by simpa using hown.1
  have fin : ∀ v2 w2, (Builtin.append_ #[t, u] ty #[v, .string s]).run P w = .ok v2 w2 → (v2.ownBlock = v.ownBlock ∨ ∃ b, v2.ownBlock = some b ∧ w.heap.size ≤ b) → v'.ownBlock = v.ownBlock ∨ ∃ b, v'.ownBlock = some b ∧ w.heap.size ≤ b := by
    intro v2 w2 h2 h3
    have h4 := hr.symm.trans h2
    simp only [Result.ok.injEq] at h4
    rw [h4.1]
    exact h3
  rcases hown.2 with ⟨rfl, rfl⟩ | ⟨g, cap, cur, rfl, hbg, hg, hnc, hcm, hcs, htake⟩
  · by_cases hm : s.size = 0
    · obtain ⟨v2, w2, h2, _, _, h5⟩ := Lib.run_append_own_string (P := P) w base t u ty e i ht hu hi hz hsize hby (.slice none 0 0) 0 xs hown s (by simp only [maxLen]; omega) hb hbase
      exact fin _ _ h2 (.inl (by rw [h5.2 ⟨rfl, hm⟩]))
    · exact fin _ _ (run_append_nil_string (P := P) w t u ty e i (.int .u8 0) ht hu hi hz s (by omega) (by omega) (by rw [hby]; omega)) (.inr ⟨w.heap.size, by simp [Value.ownBlock], Nat.le_refl _⟩)
  · by_cases hroom : n + s.size ≤ cap
    · have hcs' : cur.size = cap := by simpa using hcs
      exact fin _ _ (Lib.run_append_room_string (P := P) w t u ty e i ht hu hi hsize g n cap cur hg s hroom (by omega)) (.inl (by simp [Value.ownBlock]))
    · have holds : ∀ j u, xs[j]? = some u → w.cell? ((⟨g, 0, none⟩ : Addr).add j) = some u := hown.cells (g := g) rfl
      exact fin _ _ (Lib.run_append_grow_string (P := P) w t u ty e i (.int .u8 0) ht hu hi hz ⟨g, 0, none⟩ n cap xs (by rw [hsize]; simpa using hxl) holds s (by omega) (by omega) (by rw [hby]; exact growslice_fits (by omega) (by omega)))
        (.inr ⟨w.heap.size, by simp [Value.ownBlock], Nat.le_refl _⟩)
theorem append_str_at {P : Program} {ops : Array Oper} {rest : List Oper} {o : Oper} {a : Act} {Q : Exit → Act → World → Prop} {w0 W : World} (base : Nat) (hgd : o.guard = none) (s x : Operand) (t u e : TypeId)
    (ho : o.op = .call { callee := .builtin .append, args := #[s, x], argTypes := #[t, u] })
    (ht : P.underlying t = some (.slice e)) (hu : P.underlying u = some .string) (hinfo : (P.info? e).map (fun i => (i.zero, i.size, i.bytes)) = some (some (.int .u8 0), 1, 1))
    (v : Value) (xs : List Int) (y : ByteArray) (hs : a.eval s = v) (hx : a.eval x = .string y)
    (HO : W.ownsRow base e 1 v xs.length (nums .u8 xs)) (HB : Below base w0 W) (hbase : base ≤ W.heap.size) (hl : xs.length + y.size ≤ 140737488355328)
    (h : ∀ v1 w1, w1.ownsRow base e 1 v1 (xs ++ bytesOf y).length (nums .u8 (xs ++ bytesOf y)) → Below base w0 w1 → W.grownBy w1 v.ownBlock → (v1.ownBlock = v.ownBlock ∨ ∃ b, v1.ownBlock = some b ∧ W.heap.size ≤ b) → wpList P ops Q rest (a.put o.dst v1) w1) :
    wpList P ops Q (o :: rest) a W := by
  obtain ⟨i0, hi, hzz⟩ := Option.map_eq_some_iff.1 hinfo
  simp only [Prod.mk.injEq] at hzz
  obtain ⟨hz0, hz1, hz2⟩ := hzz
  refine wpList_plain hgd fun K hK => ?_
  obtain ⟨v', w', hr, h2, h3, _⟩ := Lib.run_append_own_string (P := P) W base t u o.type e i0 ht hu hi hz0 hz1 hz2 v xs.length (nums .u8 xs) HO y (by simp only [maxLen]; omega) hl hbase
  have hat := append_str_lies W base t u o.type e i0 ht hu hi hz0 hz1 hz2 v xs.length (nums .u8 xs) HO y hl hbase hr
  have hl2 : (xs ++ bytesOf y).length = xs.length + y.size := by rw [List.length_append, bytesOf_length]
  have hc : nums .u8 (xs ++ bytesOf y) = nums .u8 xs ++ Lib.strCells y := by
    rw [nums_append]
    congr 1
    simp [nums, bytesOf, Lib.strCells]
  unfold Oper.wp execOp
  simp only [ho, resolve, invoke, builtin, Sem.run_bind, Sem.run_pure, Result.andThen_ok, List.map_toArray, List.map_cons, List.map_nil, hs, hx, hr]
  exact hK _ _ (h v' w' (by rw [hl2, hc]; exact h2) (HB.grown h3 hbase (own_base HO)) h3 hat)
set_option maxHeartbeats 8000000 in
set_option maxRecDepth 100000 in
theorem refText_calls (k : Nat) (P0_ : Nat → Prop) (u9000_ : Value) (l0 : List Int) (a1 : ByteArray) (r : List Int) (w0 w : World) (hB : Below w0.heap.size w0 w) (ho0 : Kd.R (Kd.int .u8) 5 w w0.heap.size P0_ u9000_ l0) (h : ((platenref20_Number.f k l0 (IntKind.u64.wrap ((a1.size : Int)))).bind fun t227 => (if t227.length + a1.size < 140737488355328 then (some (t227 ++ bytesOf a1)) else (none))) = some r) :
    Calls Try.prog 46 #[u9000_, .string a1] w fun e w' => ∃ v0_ : Value, e = .returned (v0_) ∧ Kd.R (Kd.int .u8) 5 w' w0.heap.size (fun k_ => (P0_ k_ ∨ w.heap.size ≤ k_)) v0_ r ∧ Below w0.heap.size w0 w' ∧ Kept w w' (fun k_ => P0_ k_) := by
  have HO0 := Aside0.mk (show Kd.R (Kd.int .u8) 5 w w0.heap.size (fun k_ => (P0_ k_ ∨ w.heap.size ≤ k_)) u9000_ l0 from Kd.R_mono ho0 (fun k_ hk => (.inl hk)))
  have HK := Aside0.mk (Kept.refl w (fun k_ => P0_ k_))
  have HW0 := Aside0.mk hB.size
  have HB := Aside0.mk hB
  clear hB
  have H : ((platenref20_Number.f k l0 (IntKind.u64.wrap ((a1.size : Int)))).bind fun t227 => (if t227.length + a1.size < 140737488355328 then (some (t227 ++ bytesOf a1)) else (none))) = some r := h
  clear h
  replace H := Option.bind_eq_some_iff.mp H
  obtain ⟨t227, A30, H⟩ := H
  replace H : (if t227.length + a1.size < 140737488355328 then (some (t227 ++ bytesOf a1)) else (none)) = some r := H
  have A3 := Aside0.mk A30
  clear A30
  by_cases c4 : t227.length + a1.size < 140737488355328
  · rw [if_pos c4] at H
    have LMc4 := Aside0.mk c4
    clear c4
    obtain ⟨y230, hy230⟩ : ∃ y_ : List Int, y_ = (t227 ++ bytesOf a1) := ⟨_, rfl⟩
    replace H : (some y230) = some r := by first | (rw [hy230]; with_reducible exact H) | (have H2_ := (Option.bind_some _ _).symm.trans H; rw [hy230]; with_reducible exact H2_) | (have H2_ := (Option.bind_some _ _).symm.trans H; with_reducible exact H2_) | with_reducible exact H | (rw [hy230]; exact H) | exact H
    have Ny230 := Aside0.mk hy230
    clear hy230
    obtain rfl := Option.some.inj H
    obtain ⟨Ao5, co5, eo5⟩ := Kd.R_slice HO0.out
    subst eo5
    go_enter Try.func46, Try.ntmps46
    go_wp2_with (first | ((with_reducible refine gate_callee (f := 27) rfl ?_); refine goesL_ (some 9) rfl rfl Try.func27 (by kernel_rfl) rfl #[.slice Ao5 l0.length co5, .int .u64 (IntKind.u64.wrap ((a1.size : Int)))] rfl (by (try simp only [List.map_toArray, List.map_cons, List.map_nil]); first | done | rfl | (simp only [List.length_drop, List.length_take]; rfl)) ?_; (with_reducible refine (platenref20_Number.calls k (fun k_ => some k_ = (.slice Ao5 l0.length co5 : Value).ownBlock) (.slice Ao5 l0.length co5) l0 (IntKind.u64.wrap ((a1.size : Int))) t227 w0 _ ?side1 ?side2 A3.out).mono ?_); (case side1 => repeat (first | (with_reducible first | exact HB.out | apply below_alloc | apply pw_below_drewN | apply below_drew1) | exact HB.out)); (case side2 => exact Kd.R_tight rfl HO0.out); rintro e w6 ⟨v228, rfl, ho0, hb, hkp⟩; refine ⟨_, rfl, ?_⟩; have n0_ := Aside0.mk (Kd.R_mono (ok' := fun k_ => (P0_ k_ ∨ w.heap.size ≤ k_)) ho0 (fun k_ hk_ => Or.elim hk_ (fun hs_ => (HO0.out.1 k_ (hs_).symm)) (fun hn_ => (.inr (Nat.le_trans (by first | exact HK.out.1 | exact (show Kept w _ (fun k_ => P0_ k_) from by repeat (first | (with_reducible first | exact HK.out | apply Kept.alloc | apply Kept.drewN | apply Kept.drew) | exact HK.out)).1) hn_))))); have n1_ := Aside0.mk (Kept.then_ (S := (fun k_ => P0_ k_)) (by repeat (first | (with_reducible first | exact HK.out | apply Kept.alloc | apply Kept.drewN | apply Kept.drew) | exact HK.out)) hkp (fun k_ hs_ => (fun e_ => (HO0.out.1 k_ e_.symm)) hs_)); have n2_ := Aside0.mk (hb); clear HK; clear HB; clear HO0; have HO229 := n0_; have HK := n1_; have HB := n2_; clear n0_ n1_ n2_; (try clear hb); (try clear hkp); (try clear ho0)) | (at_builtin; refine append_str_at (w0 := w0) w0.heap.size rfl (.tmp 10) _ 32 9 5 rfl Try.underlying32 Try.underlying9 info5 v228 t227 a1 rfl rfl ?aO ?aB ?aS ?aL ?_; (case aB => exact (by repeat (first | (with_reducible first | exact HB.out | apply below_alloc | apply pw_below_drewN | apply below_drew1) | exact HB.out))); (case aO => exact (Kd.own_of_R (by (with_reducible repeat (first | apply Kd.R_alloc | apply Kd.R_drewN | apply Kd.R_drew)); exact HO229.out))); (case aS => exact (below_size (by repeat (first | (with_reducible first | exact HB.out | apply below_alloc | apply pw_below_drewN | apply below_drew1) | exact HB.out)))); (case aL => have := LMc4.out; omega); intro v231 w7 ho0 hb hg hat; have ho := Kd.R_of_own (h1 := fun _ => rfl) (ok := fun k_ => (P0_ k_ ∨ w.heap.size ≤ k_)) ho0 (fun k_ e_ => Or.elim hat (fun q_ => HO229.out.1 k_ (q_ ▸ e_)) (fun ⟨b_, q1_, q2_⟩ => .inr (by have := Option.some.inj (q1_.symm.trans e_); subst this; exact Nat.le_trans (show Kept w _ (fun k_ => P0_ k_) from by repeat (first | (with_reducible first | exact HK.out | apply Kept.alloc | apply Kept.drewN | apply Kept.drew) | exact HK.out)).1 q2_))); clear ho0; rw [← Ny230.out] at ho; change Kd.R (Kd.int .u8) 5 w7 w0.heap.size (fun k_ => (P0_ k_ ∨ w.heap.size ≤ k_)) v231 y230 at ho; have n0_ := Aside0.mk (hb); have n1_ := Aside0.mk (Kept.of_grown (S := (fun k_ => P0_ k_)) hg (by repeat (first | (with_reducible first | exact HK.out | apply Kept.alloc | apply Kept.drewN | apply Kept.drew) | exact HK.out)) (fun k_ e_ => (HO229.out.1 k_ e_))); have n2_ := Aside0.mk (ho); clear HB; clear HK; clear HO229; have HB := n0_; have HK := n1_; have HO232 := n2_; clear n0_ n1_ n2_; clear ho hb hg hat))
    go_ret
    exact ⟨_, by first | rfl | (simp [errW_none, errW_some] <;> rfl) | (simp [*, errW_none, errW_some] <;> rfl), by (with_reducible repeat (first | apply Kd.R_alloc | apply Kd.R_drewN | apply Kd.R_drew)); exact HO232.out, by repeat (first | (with_reducible first | exact HB.out | apply below_alloc | apply pw_below_drewN | apply below_drew1) | exact HB.out), by repeat (first | (with_reducible first | exact HK.out | apply Kept.alloc | apply Kept.drewN | apply Kept.drew) | exact HK.out)⟩
  · rw [if_neg c4] at H
    exact absurd H (by simp)
end Go.Proofs.Ytihiapjfdgoomaa.A
namespace Go.Proofs.Ytihiapjfdgoomaa.P
open Go.RowKit Go.Proofs.YtihiapjfdgoomaaW.PrintWords Go.Proofs.YtihiapjfdgoomaaW.PrintLast Go.Proofs.YtihiapjfdgoomaaW.PrintMore
attribute [local go_sem] max2_int min2_int max_two min_two max_three min_three max_four min_four   -- for this text's walks alone
set_option linter.unusedVariables false
set_option linter.unusedSimpArgs false
--OVER
def platenref20_Text.f (k : Nat) (l0 : List Int) (a1 : ByteArray) : Option (List Int) := (platenref20_Number.f k l0 (IntKind.u64.wrap ((a1.size : Int)))).bind fun t227 => (if t227.length + a1.size < 140737488355328 then (some (t227 ++ bytesOf a1)) else (none))
theorem platenref20_Text.mono : ∀ a0 a1 k, LeO (platenref20_Text.f k a0 a1) (platenref20_Text.f (k + 1) a0 a1) := by
  intro a0 a1 k
  unfold platenref20_Text.f
  repeat' first
      | (with_reducible exact platenref20_Number.mono _ _ _)
      | (with_reducible exact LeO.refl _)
      | (with_reducible exact LeO.none _)
      | (with_reducible refine LeO.ite ?_ ?_)
      | (with_reducible refine LeO.bind ?_ (fun _ => ?_))
      | exact platenref20_Number.mono _ _ _
      | exact LeO.none _
      | refine LeO.ite ?_ ?_
      | refine LeO.bind ?_ (fun _ => ?_)
theorem platenref20_Text.calls (k : Nat) (P0_ : Nat → Prop) (u9000_ : Value) (l0 : List Int) (a1 : ByteArray) (r : List Int) (w0 w : World) (hB : Below w0.heap.size w0 w) (ho0 : Kd.R (Kd.int .u8) 5 w w0.heap.size P0_ u9000_ l0) (h : platenref20_Text.f k l0 a1 = some r) :
    Calls Try.prog 46 #[u9000_, .string a1] w fun e w' => ∃ v0_ : Value, e = .returned (v0_) ∧ Kd.R (Kd.int .u8) 5 w' w0.heap.size (fun k_ => (P0_ k_ ∨ w.heap.size ≤ k_)) v0_ r ∧ Below w0.heap.size w0 w' ∧ Kept w w' (fun k_ => P0_ k_) :=
  Go.Proofs.Ytihiapjfdgoomaa.A.refText_calls k P0_ u9000_ l0 a1 r w0 w hB ho0 h
attribute [local go_sem] max2_int min2_int max_two min_two max_three min_three max_four min_four   -- for this text's walks alone
def platenref20_box.f (k : Nat) (l0 : List Int) (a1_0 : Int) (a1_1 : Int) (a1_2 : ByteArray) (a1_3 : Int) (a1_4 : Int) (a1_5 : Int) (a1_6 : Int) (a1_7 : Int) (a1_8 : Int) (a1_9 : Int) : Option (List Int) := (platenref20_numbers.f k l0 (([a1_0, a1_1] : List Int))).bind fun t237 => ((platenref20_Text.f k t237 a1_2).bind fun t240 => ((platenref20_numbers.f k t240 (([a1_3, a1_4, a1_5, a1_6, a1_7, a1_8, a1_9] : List Int))).bind fun t246 => (some t246)))
theorem platenref20_box.mono : ∀ a0 a1 a2 a3 a4 a5 a6 a7 a8 a9 a10 k, LeO (platenref20_box.f k a0 a1 a2 a3 a4 a5 a6 a7 a8 a9 a10) (platenref20_box.f (k + 1) a0 a1 a2 a3 a4 a5 a6 a7 a8 a9 a10) := by
  intro a0 a1 a2 a3 a4 a5 a6 a7 a8 a9 a10 k
  unfold platenref20_box.f
  repeat' first
      | (with_reducible exact platenref20_Text.mono _ _ _)
      | (with_reducible exact platenref20_numbers.mono _ _ _)
      | (with_reducible exact LeO.refl _)
      | (with_reducible exact LeO.none _)
      | (with_reducible refine LeO.ite ?_ ?_)
      | (with_reducible refine LeO.bind ?_ (fun _ => ?_))
      | exact platenref20_Text.mono _ _ _
      | exact platenref20_numbers.mono _ _ _
      | exact LeO.none _
      | refine LeO.ite ?_ ?_
      | refine LeO.bind ?_ (fun _ => ?_)
set_option maxHeartbeats 8000000 in
set_option maxRecDepth 100000 in
theorem platenref20_box.calls (k : Nat) (P0_ : Nat → Prop) (u9000_ : Value) (l0 : List Int) (a1_0 : Int) (a1_1 : Int) (a1_2 : ByteArray) (a1_3 : Int) (a1_4 : Int) (a1_5 : Int) (a1_6 : Int) (a1_7 : Int) (a1_8 : Int) (a1_9 : Int) (r : List Int) (w0 w : World) (hB : Below w0.heap.size w0 w) (ho0 : Kd.R (Kd.int .u8) 5 w w0.heap.size P0_ u9000_ l0) (h : platenref20_box.f k l0 a1_0 a1_1 a1_2 a1_3 a1_4 a1_5 a1_6 a1_7 a1_8 a1_9 = some r) :
    Calls Try.prog 39 #[u9000_, .agg #[.int .i64 a1_0, .int .i64 a1_1, .string a1_2, .int .i64 a1_3, .int .i64 a1_4, .int .i64 a1_5, .int .i64 a1_6, .int .i64 a1_7, .int .i64 a1_8, .int .i64 a1_9]] w fun e w' => ∃ v0_ : Value, e = .returned (v0_) ∧ Kd.R (Kd.int .u8) 5 w' w0.heap.size (fun k_ => (P0_ k_ ∨ w.heap.size ≤ k_)) v0_ r ∧ Below w0.heap.size w0 w' ∧ Kept w w' (fun k_ => P0_ k_) := by
  have hu50 := Try.underlying50
  have HO0 := Aside0.mk (show Kd.R (Kd.int .u8) 5 w w0.heap.size (fun k_ => (P0_ k_ ∨ w.heap.size ≤ k_)) u9000_ l0 from Kd.R_mono ho0 (fun k_ hk => (.inl hk)))
  have HK := Aside0.mk (Kept.refl w (fun k_ => P0_ k_))
  have HW0 := Aside0.mk hB.size
  have HB := Aside0.mk hB
  clear hB
  have H : ((platenref20_numbers.f k l0 (([a1_0, a1_1] : List Int))).bind fun t237 => ((platenref20_Text.f k t237 a1_2).bind fun t240 => ((platenref20_numbers.f k t240 (([a1_3, a1_4, a1_5, a1_6, a1_7, a1_8, a1_9] : List Int))).bind fun t246 => (some t246)))) = some r := h
  clear h
  obtain ⟨y234, hy234⟩ : ∃ y_ : List Int, y_ = (([a1_0, a1_1] : List Int)) := ⟨_, rfl⟩
  replace H : ((platenref20_numbers.f k l0 y234).bind fun t237 => ((platenref20_Text.f k t237 a1_2).bind fun t240 => ((platenref20_numbers.f k t240 (([a1_3, a1_4, a1_5, a1_6, a1_7, a1_8, a1_9] : List Int))).bind fun t246 => (some t246)))) = some r := by first | (rw [hy234]; with_reducible exact H) | (have H2_ := (Option.bind_some _ _).symm.trans H; rw [hy234]; with_reducible exact H2_) | (have H2_ := (Option.bind_some _ _).symm.trans H; with_reducible exact H2_) | with_reducible exact H | (rw [hy234]; exact H) | exact H
  have Ny234 := Aside0.mk hy234
  clear hy234
  replace H := Option.bind_eq_some_iff.mp H
  obtain ⟨t237, A30, H⟩ := H
  replace H : ((platenref20_Text.f k t237 a1_2).bind fun t240 => ((platenref20_numbers.f k t240 (([a1_3, a1_4, a1_5, a1_6, a1_7, a1_8, a1_9] : List Int))).bind fun t246 => (some t246))) = some r := H
  have A3 := Aside0.mk A30
  clear A30
  replace H := Option.bind_eq_some_iff.mp H
  obtain ⟨t240, A40, H⟩ := H
  replace H : ((platenref20_numbers.f k t240 (([a1_3, a1_4, a1_5, a1_6, a1_7, a1_8, a1_9] : List Int))).bind fun t246 => (some t246)) = some r := H
  have A4 := Aside0.mk A40
  clear A40
  obtain ⟨y243, hy243⟩ : ∃ y_ : List Int, y_ = (([a1_3, a1_4, a1_5, a1_6, a1_7, a1_8, a1_9] : List Int)) := ⟨_, rfl⟩
  replace H : ((platenref20_numbers.f k t240 y243).bind fun t246 => (some t246)) = some r := by first | (rw [hy243]; with_reducible exact H) | (have H2_ := (Option.bind_some _ _).symm.trans H; rw [hy243]; with_reducible exact H2_) | (have H2_ := (Option.bind_some _ _).symm.trans H; with_reducible exact H2_) | with_reducible exact H | (rw [hy243]; exact H) | exact H
  have Ny243 := Aside0.mk hy243
  clear hy243
  replace H := Option.bind_eq_some_iff.mp H
  obtain ⟨t246, A50, H⟩ := H
  replace H : (some t246) = some r := H
  have A5 := Aside0.mk A50
  clear A50
  obtain rfl := Option.some.inj H
  go_enter Try.func39, Try.ntmps39
  go_wp2_with (first | ((with_reducible refine gate_dst (N := 3) rfl ?_); refine box_event ?hg (N := 3) ?hd (cs := #[.int .i64 a1_0, .int .i64 a1_1, .string a1_2, .int .i64 a1_3, .int .i64 a1_4, .int .i64 a1_5, .int .i64 a1_6, .int .i64 a1_7, .int .i64 a1_8, .int .i64 a1_9]) (t := 50) ?hr ?_; (case hd => rfl); (case hg => rfl); (case hr => first | (go_simp; done) | (go_simp; rfl)); intro gb233 hg w6 hbox hb; have n0_ := Aside0.mk (Kd.R_below (by (with_reducible repeat (first | apply Kd.R_alloc | apply Kd.R_drewN | apply Kd.R_drew)); exact HO0.out) hb); have n1_ := Aside0.mk (Kept.below (S := (fun k_ => P0_ k_)) (by repeat (first | (with_reducible first | exact HK.out | apply Kept.alloc | apply Kept.drewN | apply Kept.drew) | exact HK.out)) hb); have n2_ := Aside0.mk (below_step (by repeat (first | (with_reducible first | exact HB.out | apply below_alloc | apply pw_below_drewN | apply below_drew1) | exact HB.out)) hb); have n3_ := Aside0.mk (hbox); have n4_ := Aside0.mk ((by rw [hg]; exact (by first | exact HK.out.1 | exact (show Kept w _ (fun k_ => P0_ k_) from by repeat (first | (with_reducible first | exact HK.out | apply Kept.alloc | apply Kept.drewN | apply Kept.drew) | exact HK.out)).1) : w.heap.size ≤ gb233)); have n5_ := Aside0.mk ((by rw [hg]; exact (below_size (by repeat (first | (with_reducible first | exact HB.out | apply below_alloc | apply pw_below_drewN | apply below_drew1) | exact HB.out))) : w0.heap.size ≤ gb233)); clear HO0; clear HK; clear HB; have HO0 := n0_; have HK := n1_; have HB := n2_; have BK233 := n3_; have GW233 := n4_; have GE233 := n5_; clear n0_ n1_ n2_ n3_ n4_ n5_; clear hb hbox hg; have hcz7_0 : w6.cell? ⟨gb233, 0, none⟩ = some (.int .i64 a1_0) := (blk_cell BK233.out 0).trans rfl; have hcz7_1 : w6.cell? ⟨gb233, 1, none⟩ = some (.int .i64 a1_1) := (blk_cell BK233.out 1).trans rfl; have hcz7_2 : w6.cell? ⟨gb233, 2, none⟩ = some (.string a1_2) := (blk_cell BK233.out 2).trans rfl; have hcz7_3 : w6.cell? ⟨gb233, 3, none⟩ = some (.int .i64 a1_3) := (blk_cell BK233.out 3).trans rfl; have hcz7_4 : w6.cell? ⟨gb233, 4, none⟩ = some (.int .i64 a1_4) := (blk_cell BK233.out 4).trans rfl; have hcz7_5 : w6.cell? ⟨gb233, 5, none⟩ = some (.int .i64 a1_5) := (blk_cell BK233.out 5).trans rfl; have hcz7_6 : w6.cell? ⟨gb233, 6, none⟩ = some (.int .i64 a1_6) := (blk_cell BK233.out 6).trans rfl; have hcz7_7 : w6.cell? ⟨gb233, 7, none⟩ = some (.int .i64 a1_7) := (blk_cell BK233.out 7).trans rfl; have hcz7_8 : w6.cell? ⟨gb233, 8, none⟩ = some (.int .i64 a1_8) := (blk_cell BK233.out 8).trans rfl; have hcz7_9 : w6.cell? ⟨gb233, 9, none⟩ = some (.int .i64 a1_9) := (blk_cell BK233.out 9).trans rfl; have hfz7_0 := blk_frozen BK233.out 0; have hfz7_1 := blk_frozen BK233.out 1; have hfz7_2 := blk_frozen BK233.out 2; have hfz7_3 := blk_frozen BK233.out 3; have hfz7_4 := blk_frozen BK233.out 4; have hfz7_5 := blk_frozen BK233.out 5; have hfz7_6 := blk_frozen BK233.out 6; have hfz7_7 := blk_frozen BK233.out 7; have hfz7_8 := blk_frozen BK233.out 8; have hfz7_9 := blk_frozen BK233.out 9) | ((with_reducible refine gate_dst (N := 10) rfl ?_); refine Kd.R_lit (Kd.int .i64) _ 3 ?hg (N := 10) ?hd (xs := ([a1_0, a1_1] : List Int)) (inner := [.int .i64 a1_0, .int .i64 a1_1]) (ok := fun _ => True) (okp := fun _ => True) ?hr ?hp (fun _ hk => hk) trivial (Below.refl _ _) (Nat.le_refl _) (by simp) ?_; (case hd => rfl); (case hg => rfl); (case hr => first | (go_simp; done) | (go_simp; rfl)); (case hp => exact (Reps.one (show Kd.M (Kd.int .i64) _ _ _ a1_0 [.int .i64 a1_0] from rfl) (Reps.one (show Kd.M (Kd.int .i64) _ _ _ a1_1 [.int .i64 a1_1] from rfl) (Reps.none _ _)))); intro v235 w8 ho9 hb hg_ hnew_; clear hg_ hnew_; (first | rw [← Ny234.out] at ho9 | (simp only [Int.reduceToNat] at ho9; rw [← Ny234.out] at ho9)); have n0_ := Aside0.mk (Kd.R_below (by (with_reducible repeat (first | apply Kd.R_alloc | apply Kd.R_drewN | apply Kd.R_drew)); exact HO0.out) hb); have n1_ := Aside0.mk (Kd.R_lower (Kd.R_newM (M := fun k_ => (P0_ k_ ∨ w.heap.size ≤ k_)) ho9 (by first | exact HK.out.1 | exact (show Kept w _ (fun k_ => P0_ k_) from by repeat (first | (with_reducible first | exact HK.out | apply Kept.alloc | apply Kept.drewN | apply Kept.drew | refine Kept.setCell ?_ (.inr GW233.out) _) | exact HK.out)).1) (fun k_ h_ => .inr h_)) (below_size (by repeat (first | (with_reducible first | exact HB.out | apply below_alloc | apply pw_below_drewN | apply below_drew1 | refine below_set ?_ GE233.out) | exact HB.out)))); have n2_ := Aside0.mk (blk_below (g := gb233) (o := .cells #[.int .i64 a1_0, .int .i64 a1_1, .string a1_2, .int .i64 a1_3, .int .i64 a1_4, .int .i64 a1_5, .int .i64 a1_6, .int .i64 a1_7, .int .i64 a1_8, .int .i64 a1_9] 50 (0, 0)) (by (with_reducible repeat (first | refine blk_drewN ?_ _ | refine blk_drew ?_ | refine blk_alloc ?_ _)); exact BK233.out) hb); have n3_ := Aside0.mk (Kept.below (S := (fun k_ => P0_ k_)) (by repeat (first | (with_reducible first | exact HK.out | apply Kept.alloc | apply Kept.drewN | apply Kept.drew | refine Kept.setCell ?_ (.inr GW233.out) _) | exact HK.out)) hb); have n4_ := Aside0.mk (below_step (by repeat (first | (with_reducible first | exact HB.out | apply below_alloc | apply pw_below_drewN | apply below_drew1 | refine below_set ?_ GE233.out) | exact HB.out)) hb); clear HO0; clear BK233; clear HK; clear HB; have HO0 := n0_; have HO236 := n1_; have BK233 := n2_; have HK := n3_; have HB := n4_; clear n0_ n1_ n2_ n3_ n4_; clear hb ho9; obtain ⟨Ao10, co10, eo10⟩ := Kd.R_slice HO0.out; subst eo10; obtain ⟨Ao11, co11, eo11⟩ := Kd.R_slice HO236.out; subst eo11) | ((with_reducible refine gate_callee (f := 24) rfl ?_); refine goesL_ (some 11) rfl rfl Try.func24 (by kernel_rfl) rfl #[.slice Ao10 l0.length co10, .slice Ao11 y234.length co11] rfl (by (try simp only [List.map_toArray, List.map_cons, List.map_nil]); first | done | rfl | (simp only [List.length_drop, List.length_take]; rfl)) ?_; (with_reducible refine (platenref20_numbers.calls k (fun k_ => some k_ = (.slice Ao10 l0.length co10 : Value).ownBlock) (.slice Ao10 l0.length co10) l0 _ _ y234 t237 w0 _ ?side1 ?side2 ?side3 ?side4 A3.out).mono ?_); (case side1 => repeat (first | (with_reducible first | exact HB.out | apply below_alloc | apply pw_below_drewN | apply below_drew1 | refine below_set ?_ GE233.out) | exact HB.out)); (case side2 => exact Kd.R_tight rfl HO0.out); (case side3 => exact Kd.C_kept_own ((Kd.R_apart' HO236.out (Kd.R_typed HO0.out) (by decide))) (fun k_ hk_ hs_ => (hk_.2) hs_)); (case side4 => exact (Kd.R_reads' HO236.out).2.1); rintro e w12 ⟨v238, rfl, ho0, hb, hkp⟩; refine ⟨_, rfl, ?_⟩; have n0_ := Aside0.mk (blk_kept (by (with_reducible repeat (first | refine blk_drewN ?_ _ | refine blk_drew ?_ | refine blk_alloc ?_ _)); exact BK233.out) hkp (fun hs_ => (fun e_ => (Kd.R_ne HO0.out BK233.out (by decide)) e_) hs_)); have n1_ := Aside0.mk (Kd.R_mono (ok' := fun k_ => (P0_ k_ ∨ w.heap.size ≤ k_)) (Kd.R_keptB ((Kd.R_apart' HO236.out (Kd.R_typed HO0.out) (by decide))) hkp (fun k_ hk_ hs_ => (hk_.2) hs_)) (fun k_ hk_ => hk_.1.1.1)); have n2_ := Aside0.mk (Kd.R_mono (ok' := fun k_ => (P0_ k_ ∨ w.heap.size ≤ k_)) ho0 (fun k_ hk_ => Or.elim hk_ (fun hs_ => (HO0.out.1 k_ (hs_).symm)) (fun hn_ => (.inr (Nat.le_trans (by first | exact HK.out.1 | exact (show Kept w _ (fun k_ => P0_ k_) from by repeat (first | (with_reducible first | exact HK.out | apply Kept.alloc | apply Kept.drewN | apply Kept.drew | refine Kept.setCell ?_ (.inr GW233.out) _) | exact HK.out)).1) hn_))))); have n3_ := Aside0.mk (Kept.then_ (S := (fun k_ => P0_ k_)) (by repeat (first | (with_reducible first | exact HK.out | apply Kept.alloc | apply Kept.drewN | apply Kept.drew | refine Kept.setCell ?_ (.inr GW233.out) _) | exact HK.out)) hkp (fun k_ hs_ => (fun e_ => (HO0.out.1 k_ e_.symm)) hs_)); have n4_ := Aside0.mk (hb); clear BK233; clear HO236; clear HK; clear HB; clear HO0; have BK233 := n0_; have HO236 := n1_; have HO239 := n2_; have HK := n3_; have HB := n4_; clear n0_ n1_ n2_ n3_ n4_; (try clear hb); (try clear hkp); (try clear ho0); have hcz13_0 : w12.cell? ⟨gb233, 0, none⟩ = some (.int .i64 a1_0) := (blk_cell BK233.out 0).trans rfl; have hcz13_1 : w12.cell? ⟨gb233, 1, none⟩ = some (.int .i64 a1_1) := (blk_cell BK233.out 1).trans rfl; have hcz13_2 : w12.cell? ⟨gb233, 2, none⟩ = some (.string a1_2) := (blk_cell BK233.out 2).trans rfl; have hcz13_3 : w12.cell? ⟨gb233, 3, none⟩ = some (.int .i64 a1_3) := (blk_cell BK233.out 3).trans rfl; have hcz13_4 : w12.cell? ⟨gb233, 4, none⟩ = some (.int .i64 a1_4) := (blk_cell BK233.out 4).trans rfl; have hcz13_5 : w12.cell? ⟨gb233, 5, none⟩ = some (.int .i64 a1_5) := (blk_cell BK233.out 5).trans rfl; have hcz13_6 : w12.cell? ⟨gb233, 6, none⟩ = some (.int .i64 a1_6) := (blk_cell BK233.out 6).trans rfl; have hcz13_7 : w12.cell? ⟨gb233, 7, none⟩ = some (.int .i64 a1_7) := (blk_cell BK233.out 7).trans rfl; have hcz13_8 : w12.cell? ⟨gb233, 8, none⟩ = some (.int .i64 a1_8) := (blk_cell BK233.out 8).trans rfl; have hcz13_9 : w12.cell? ⟨gb233, 9, none⟩ = some (.int .i64 a1_9) := (blk_cell BK233.out 9).trans rfl; have hfz13_0 := blk_frozen BK233.out 0; have hfz13_1 := blk_frozen BK233.out 1; have hfz13_2 := blk_frozen BK233.out 2; have hfz13_3 := blk_frozen BK233.out 3; have hfz13_4 := blk_frozen BK233.out 4; have hfz13_5 := blk_frozen BK233.out 5; have hfz13_6 := blk_frozen BK233.out 6; have hfz13_7 := blk_frozen BK233.out 7; have hfz13_8 := blk_frozen BK233.out 8; have hfz13_9 := blk_frozen BK233.out 9; obtain ⟨Ao14, co14, eo14⟩ := Kd.R_slice HO239.out; subst eo14) | ((with_reducible refine gate_callee (f := 46) rfl ?_); refine goesL_ (some 15) rfl rfl Try.func46 (by kernel_rfl) rfl #[.slice Ao14 t237.length co14, .string a1_2] rfl (by (try simp only [List.map_toArray, List.map_cons, List.map_nil]); first | done | rfl | (simp only [List.length_drop, List.length_take]; rfl)) ?_; (with_reducible refine (platenref20_Text.calls k (fun k_ => some k_ = (.slice Ao14 t237.length co14 : Value).ownBlock) (.slice Ao14 t237.length co14) t237 a1_2 t240 w0 _ ?side1 ?side2 A4.out).mono ?_); (case side1 => repeat (first | (with_reducible first | exact HB.out | apply below_alloc | apply pw_below_drewN | apply below_drew1 | refine below_set ?_ GE233.out) | exact HB.out)); (case side2 => exact Kd.R_tight rfl HO239.out); rintro e w15 ⟨v241, rfl, ho0, hb, hkp⟩; refine ⟨_, rfl, ?_⟩; have n0_ := Aside0.mk (blk_kept (by (with_reducible repeat (first | refine blk_drewN ?_ _ | refine blk_drew ?_ | refine blk_alloc ?_ _)); exact BK233.out) hkp (fun hs_ => (fun e_ => (Kd.R_ne HO239.out BK233.out (by decide)) e_) hs_)); have n1_ := Aside0.mk (Kd.R_mono (ok' := fun k_ => (P0_ k_ ∨ w.heap.size ≤ k_)) (Kd.R_keptB ((Kd.R_apart' HO236.out (Kd.R_typed HO239.out) (by decide))) hkp (fun k_ hk_ hs_ => (hk_.2) hs_)) (fun k_ hk_ => hk_.1.1)); have n2_ := Aside0.mk (Kd.R_mono (ok' := fun k_ => (P0_ k_ ∨ w.heap.size ≤ k_)) ho0 (fun k_ hk_ => Or.elim hk_ (fun hs_ => (HO239.out.1 k_ (hs_).symm)) (fun hn_ => (.inr (Nat.le_trans (by first | exact HK.out.1 | exact (show Kept w _ (fun k_ => P0_ k_) from by repeat (first | (with_reducible first | exact HK.out | apply Kept.alloc | apply Kept.drewN | apply Kept.drew | refine Kept.setCell ?_ (.inr GW233.out) _) | exact HK.out)).1) hn_))))); have n3_ := Aside0.mk (Kept.then_ (S := (fun k_ => P0_ k_)) (by repeat (first | (with_reducible first | exact HK.out | apply Kept.alloc | apply Kept.drewN | apply Kept.drew | refine Kept.setCell ?_ (.inr GW233.out) _) | exact HK.out)) hkp (fun k_ hs_ => (fun e_ => (HO239.out.1 k_ e_.symm)) hs_)); have n4_ := Aside0.mk (hb); clear BK233; clear HO236; clear HK; clear HB; clear HO239; have BK233 := n0_; have HO236 := n1_; have HO242 := n2_; have HK := n3_; have HB := n4_; clear n0_ n1_ n2_ n3_ n4_; (try clear hb); (try clear hkp); (try clear ho0); have hcz16_0 : w15.cell? ⟨gb233, 0, none⟩ = some (.int .i64 a1_0) := (blk_cell BK233.out 0).trans rfl; have hcz16_1 : w15.cell? ⟨gb233, 1, none⟩ = some (.int .i64 a1_1) := (blk_cell BK233.out 1).trans rfl; have hcz16_2 : w15.cell? ⟨gb233, 2, none⟩ = some (.string a1_2) := (blk_cell BK233.out 2).trans rfl; have hcz16_3 : w15.cell? ⟨gb233, 3, none⟩ = some (.int .i64 a1_3) := (blk_cell BK233.out 3).trans rfl; have hcz16_4 : w15.cell? ⟨gb233, 4, none⟩ = some (.int .i64 a1_4) := (blk_cell BK233.out 4).trans rfl; have hcz16_5 : w15.cell? ⟨gb233, 5, none⟩ = some (.int .i64 a1_5) := (blk_cell BK233.out 5).trans rfl; have hcz16_6 : w15.cell? ⟨gb233, 6, none⟩ = some (.int .i64 a1_6) := (blk_cell BK233.out 6).trans rfl; have hcz16_7 : w15.cell? ⟨gb233, 7, none⟩ = some (.int .i64 a1_7) := (blk_cell BK233.out 7).trans rfl; have hcz16_8 : w15.cell? ⟨gb233, 8, none⟩ = some (.int .i64 a1_8) := (blk_cell BK233.out 8).trans rfl; have hcz16_9 : w15.cell? ⟨gb233, 9, none⟩ = some (.int .i64 a1_9) := (blk_cell BK233.out 9).trans rfl; have hfz16_0 := blk_frozen BK233.out 0; have hfz16_1 := blk_frozen BK233.out 1; have hfz16_2 := blk_frozen BK233.out 2; have hfz16_3 := blk_frozen BK233.out 3; have hfz16_4 := blk_frozen BK233.out 4; have hfz16_5 := blk_frozen BK233.out 5; have hfz16_6 := blk_frozen BK233.out 6; have hfz16_7 := blk_frozen BK233.out 7; have hfz16_8 := blk_frozen BK233.out 8; have hfz16_9 := blk_frozen BK233.out 9) | ((with_reducible refine gate_dst (N := 31) rfl ?_); refine Kd.R_lit (Kd.int .i64) _ 3 ?hg (N := 31) ?hd (xs := ([a1_3, a1_4, a1_5, a1_6, a1_7, a1_8, a1_9] : List Int)) (inner := [.int .i64 a1_3, .int .i64 a1_4, .int .i64 a1_5, .int .i64 a1_6, .int .i64 a1_7, .int .i64 a1_8, .int .i64 a1_9]) (ok := fun _ => True) (okp := fun _ => True) ?hr ?hp (fun _ hk => hk) trivial (Below.refl _ _) (Nat.le_refl _) (by simp) ?_; (case hd => rfl); (case hg => rfl); (case hr => first | (go_simp; done) | (go_simp; rfl)); (case hp => exact (Reps.one (show Kd.M (Kd.int .i64) _ _ _ a1_3 [.int .i64 a1_3] from rfl) (Reps.one (show Kd.M (Kd.int .i64) _ _ _ a1_4 [.int .i64 a1_4] from rfl) (Reps.one (show Kd.M (Kd.int .i64) _ _ _ a1_5 [.int .i64 a1_5] from rfl) (Reps.one (show Kd.M (Kd.int .i64) _ _ _ a1_6 [.int .i64 a1_6] from rfl) (Reps.one (show Kd.M (Kd.int .i64) _ _ _ a1_7 [.int .i64 a1_7] from rfl) (Reps.one (show Kd.M (Kd.int .i64) _ _ _ a1_8 [.int .i64 a1_8] from rfl) (Reps.one (show Kd.M (Kd.int .i64) _ _ _ a1_9 [.int .i64 a1_9] from rfl) (Reps.none _ _))))))))); intro v244 w17 ho18 hb hg_ hnew_; clear hg_ hnew_; (first | rw [← Ny243.out] at ho18 | (simp only [Int.reduceToNat] at ho18; rw [← Ny243.out] at ho18)); have n0_ := Aside0.mk (Kd.R_elder' (by (with_reducible repeat (first | apply Kd.R_alloc | apply Kd.R_drewN | apply Kd.R_drew)); exact HO236.out) (Kd.R_base ho18) hb); have n1_ := Aside0.mk (Kd.R_below (by (with_reducible repeat (first | apply Kd.R_alloc | apply Kd.R_drewN | apply Kd.R_drew)); exact HO242.out) hb); have n2_ := Aside0.mk (Kd.R_lower (Kd.R_new' (Kd.R_newM (M := fun k_ => (P0_ k_ ∨ w.heap.size ≤ k_)) ho18 (by first | exact HK.out.1 | exact (show Kept w _ (fun k_ => P0_ k_) from by repeat (first | (with_reducible first | exact HK.out | apply Kept.alloc | apply Kept.drewN | apply Kept.drew | refine Kept.setCell ?_ (.inr GW233.out) _) | exact HK.out)).1) (fun k_ h_ => .inr h_)) (Kd.R_lt (by (with_reducible repeat (first | apply Kd.R_alloc | apply Kd.R_drewN | apply Kd.R_drew)); exact HO236.out))) (below_size (by repeat (first | (with_reducible first | exact HB.out | apply below_alloc | apply pw_below_drewN | apply below_drew1 | refine below_set ?_ GE233.out) | exact HB.out)))); have n3_ := Aside0.mk (blk_below (g := gb233) (o := .cells #[.int .i64 a1_0, .int .i64 a1_1, .string a1_2, .int .i64 a1_3, .int .i64 a1_4, .int .i64 a1_5, .int .i64 a1_6, .int .i64 a1_7, .int .i64 a1_8, .int .i64 a1_9] 50 (0, 0)) (by (with_reducible repeat (first | refine blk_drewN ?_ _ | refine blk_drew ?_ | refine blk_alloc ?_ _)); exact BK233.out) hb); have n4_ := Aside0.mk (Kept.below (S := (fun k_ => P0_ k_)) (by repeat (first | (with_reducible first | exact HK.out | apply Kept.alloc | apply Kept.drewN | apply Kept.drew | refine Kept.setCell ?_ (.inr GW233.out) _) | exact HK.out)) hb); have n5_ := Aside0.mk (below_step (by repeat (first | (with_reducible first | exact HB.out | apply below_alloc | apply pw_below_drewN | apply below_drew1 | refine below_set ?_ GE233.out) | exact HB.out)) hb); clear HO236; clear HO242; clear BK233; clear HK; clear HB; have HO236 := n0_; have HO242 := n1_; have HO245 := n2_; have BK233 := n3_; have HK := n4_; have HB := n5_; clear n0_ n1_ n2_ n3_ n4_ n5_; clear hb ho18; obtain ⟨Ao19, co19, eo19⟩ := Kd.R_slice HO242.out; subst eo19; obtain ⟨Ao20, co20, eo20⟩ := Kd.R_slice HO245.out; subst eo20) | ((with_reducible refine gate_callee (f := 24) rfl ?_); refine goesL_ (some 32) rfl rfl Try.func24 (by kernel_rfl) rfl #[.slice Ao19 t240.length co19, .slice Ao20 y243.length co20] rfl (by (try simp only [List.map_toArray, List.map_cons, List.map_nil]); first | done | rfl | (simp only [List.length_drop, List.length_take]; rfl)) ?_; (with_reducible refine (platenref20_numbers.calls k (fun k_ => some k_ = (.slice Ao19 t240.length co19 : Value).ownBlock) (.slice Ao19 t240.length co19) t240 _ _ y243 t246 w0 _ ?side1 ?side2 ?side3 ?side4 A5.out).mono ?_); (case side1 => repeat (first | (with_reducible first | exact HB.out | apply below_alloc | apply pw_below_drewN | apply below_drew1 | refine below_set ?_ GE233.out) | exact HB.out)); (case side2 => exact Kd.R_tight rfl HO242.out); (case side3 => exact Kd.C_kept_own ((Kd.R_apart' HO245.out (Kd.R_typed HO242.out) (by decide))) (fun k_ hk_ hs_ => (hk_.2) hs_)); (case side4 => exact (Kd.R_reads' HO245.out).2.1); rintro e w21 ⟨v247, rfl, ho0, hb, hkp⟩; refine ⟨_, rfl, ?_⟩; have n0_ := Aside0.mk (blk_kept (by (with_reducible repeat (first | refine blk_drewN ?_ _ | refine blk_drew ?_ | refine blk_alloc ?_ _)); exact BK233.out) hkp (fun hs_ => (fun e_ => (Kd.R_ne HO242.out BK233.out (by decide)) e_) hs_)); have n1_ := Aside0.mk (Kd.R_mono (ok' := fun k_ => (P0_ k_ ∨ w.heap.size ≤ k_) ∧ some k_ ≠ (.slice Ao20 y243.length co20 : Value).ownBlock) (Kd.R_keptB ((Kd.R_apart' HO236.out (Kd.R_typed HO242.out) (by decide))) hkp (fun k_ hk_ hs_ => (hk_.2) hs_)) (fun k_ hk_ => ⟨hk_.1.1.1, hk_.1.1.2⟩)); have n2_ := Aside0.mk (Kd.R_mono (ok' := fun k_ => (P0_ k_ ∨ w.heap.size ≤ k_) ∧ some k_ ≠ (.slice Ao11 y234.length co11 : Value).ownBlock) (Kd.R_keptB ((Kd.R_apart' HO245.out (Kd.R_typed HO242.out) (by decide))) hkp (fun k_ hk_ hs_ => (hk_.2) hs_)) (fun k_ hk_ => ⟨hk_.1.1.1.1, hk_.1.1.2⟩)); have n3_ := Aside0.mk (Kd.R_mono (ok' := fun k_ => (P0_ k_ ∨ w.heap.size ≤ k_)) ho0 (fun k_ hk_ => Or.elim hk_ (fun hs_ => (HO242.out.1 k_ (hs_).symm)) (fun hn_ => (.inr (Nat.le_trans (by first | exact HK.out.1 | exact (show Kept w _ (fun k_ => P0_ k_) from by repeat (first | (with_reducible first | exact HK.out | apply Kept.alloc | apply Kept.drewN | apply Kept.drew | refine Kept.setCell ?_ (.inr GW233.out) _) | exact HK.out)).1) hn_))))); have n4_ := Aside0.mk (Kept.then_ (S := (fun k_ => P0_ k_)) (by repeat (first | (with_reducible first | exact HK.out | apply Kept.alloc | apply Kept.drewN | apply Kept.drew | refine Kept.setCell ?_ (.inr GW233.out) _) | exact HK.out)) hkp (fun k_ hs_ => (fun e_ => (HO242.out.1 k_ e_.symm)) hs_)); have n5_ := Aside0.mk (hb); clear BK233; clear HO236; clear HO245; clear HK; clear HB; clear HO242; have BK233 := n0_; have HO236 := n1_; have HO245 := n2_; have HO248 := n3_; have HK := n4_; have HB := n5_; clear n0_ n1_ n2_ n3_ n4_ n5_; (try clear hb); (try clear hkp); (try clear ho0)))
  go_ret
  exact ⟨_, by first | rfl | (simp [errW_none, errW_some] <;> rfl) | (simp [*, errW_none, errW_some] <;> rfl), by (with_reducible repeat (first | apply Kd.R_alloc | apply Kd.R_drewN | apply Kd.R_drew)); exact HO248.out, by repeat (first | (with_reducible first | exact HB.out | apply below_alloc | apply pw_below_drewN | apply below_drew1 | refine below_set ?_ GE233.out) | exact HB.out), by repeat (first | (with_reducible first | exact HK.out | apply Kept.alloc | apply Kept.drewN | apply Kept.drew | refine Kept.setCell ?_ (.inr GW233.out) _) | exact HK.out)⟩
attribute [local go_sem] max2_int min2_int max_two min_two max_three min_three max_four min_four   -- for this text's walks alone
def platenref20_row.l0 : Nat → List Int → Int → Int → Bool → Bool → List (S50) → Option (List Int)
  | 0, _, _, _, _, _, _ => none
  | k + 1, x0, x5, x250000, x250001, x250002, x250003 => if x5 < (x250003.length : Int) then (if 0 ≤ x5 then ((platenref20_box.f k x0 ((rd_T50 x250003 x5).f0) ((rd_T50 x250003 x5).f1) ((rd_T50 x250003 x5).f2) ((rd_T50 x250003 x5).f3) ((rd_T50 x250003 x5).f4) ((rd_T50 x250003 x5).f5) ((rd_T50 x250003 x5).f6) ((rd_T50 x250003 x5).f7) ((rd_T50 x250003 x5).f8) ((rd_T50 x250003 x5).f9)).bind fun t269 => (platenref20_row.l0 k t269 (wrap64 (x5 + 1)) x250000 x250001 x250002 x250003)) else (none)) else (some x0)
def platenref20_row.f (k : Nat) (l0 : List Int) (a1_0 : Int) (a1_1 : Bool) (a1_2 : Bool) (l1_3 : List (S50)) : Option (List Int) := (platenref20_numbers.f k l0 (([a1_0] : List Int))).bind fun t253 => ((platenref20_truth.f t253 a1_1).bind fun t256 => ((platenref20_truth.f t256 a1_2).bind fun t259 => ((platenref20_numbers.f k t259 (([(l1_3.length : Int)] : List Int))).bind fun t265 => (platenref20_row.l0 k t265 0 a1_0 a1_1 a1_2 l1_3))))
theorem platenref20_row.mono_l : ∀ k, (∀ y0 y1 y2 y3 y4 y5, LeO (platenref20_row.l0 k y0 y1 y2 y3 y4 y5) (platenref20_row.l0 (k + 1) y0 y1 y2 y3 y4 y5))
  | 0 => fun _ _ _ _ _ _ r h => by simp [platenref20_row.l0] at h
  | k + 1 => by
    have ih0 := platenref20_row.mono_l k
    · intro y0 y1 y2 y3 y4 y5
      unfold platenref20_row.l0
      repeat' first
      | (with_reducible exact ih0 _ _ _ _ _ _)
      | (with_reducible exact platenref20_box.mono _ _ _ _ _ _ _ _ _ _ _ _)
      | (with_reducible exact platenref20_numbers.mono _ _ _)
      | (with_reducible exact LeO.refl _)
      | (with_reducible exact LeO.none _)
      | (with_reducible refine LeO.ite ?_ ?_)
      | (with_reducible refine LeO.bind ?_ (fun _ => ?_))
      | exact ih0 _ _ _ _ _ _
      | exact platenref20_box.mono _ _ _ _ _ _ _ _ _ _ _ _
      | exact platenref20_numbers.mono _ _ _
      | exact LeO.none _
      | refine LeO.ite ?_ ?_
      | refine LeO.bind ?_ (fun _ => ?_)
theorem platenref20_row.mono : ∀ a0 a1 a2 a3 a4 k, LeO (platenref20_row.f k a0 a1 a2 a3 a4) (platenref20_row.f (k + 1) a0 a1 a2 a3 a4) := by
  intro a0 a1 a2 a3 a4 k
  have ih0 := platenref20_row.mono_l k
  unfold platenref20_row.f
  repeat' first
      | (with_reducible exact ih0 _ _ _ _ _ _)
      | (with_reducible exact platenref20_box.mono _ _ _ _ _ _ _ _ _ _ _ _)
      | (with_reducible exact platenref20_numbers.mono _ _ _)
      | (with_reducible exact LeO.refl _)
      | (with_reducible exact LeO.none _)
      | (with_reducible refine LeO.ite ?_ ?_)
      | (with_reducible refine LeO.bind ?_ (fun _ => ?_))
      | exact ih0 _ _ _ _ _ _
      | exact platenref20_box.mono _ _ _ _ _ _ _ _ _ _ _ _
      | exact platenref20_numbers.mono _ _ _
      | exact LeO.none _
      | refine LeO.ite ?_ ?_
      | refine LeO.bind ?_ (fun _ => ?_)
set_option maxHeartbeats 8000000 in
set_option maxRecDepth 100000 in
theorem platenref20_row.calls (k : Nat) (P0_ : Nat → Prop) (u9000_ : Value) (l0 : List Int) (a1_0 : Int) (a1_1 : Bool) (a1_2 : Bool) (A1_3 : Option Addr) (c1_3 : Nat) (l1_3 : List (S50)) (r : List Int) (w0 w : World) (hB : Below w0.heap.size w0 w) (ho0 : Kd.R (Kd.int .u8) 5 w w0.heap.size P0_ u9000_ l0) (hr1_3 : ∀ W_, Kept w W_ (fun k_ => P0_ k_) → Kd.C k50 W_ A1_3 l1_3.length l1_3) (hc1_3 : l1_3.length ≤ c1_3) (h : platenref20_row.f k l0 a1_0 a1_1 a1_2 l1_3 = some r) :
    Calls Try.prog 26 #[u9000_, .agg #[.int .i64 a1_0, .bool a1_1, .bool a1_2, .slice A1_3 l1_3.length c1_3]] w fun e w' => ∃ v0_ : Value, e = .returned (v0_) ∧ Kd.R (Kd.int .u8) 5 w' w0.heap.size (fun k_ => (P0_ k_ ∨ w.heap.size ≤ k_)) v0_ r ∧ Below w0.heap.size w0 w' ∧ Kept w w' (fun k_ => P0_ k_) := by
  have hu48 := Try.underlying48
  have hu50 := Try.underlying50
  have HO0 := Aside0.mk (show Kd.R (Kd.int .u8) 5 w w0.heap.size (fun k_ => (P0_ k_ ∨ w.heap.size ≤ k_)) u9000_ l0 from Kd.R_mono ho0 (fun k_ hk => (.inl hk)))
  have HR1_3 := Aside0.mk hr1_3
  have HC1_3 := Aside0.mk hc1_3
  clear hr1_3 hc1_3
  have HK := Aside0.mk (Kept.refl w (fun k_ => P0_ k_))
  have HW0 := Aside0.mk hB.size
  have HB := Aside0.mk hB
  clear hB
  have H : ((platenref20_numbers.f k l0 (([a1_0] : List Int))).bind fun t253 => ((platenref20_truth.f t253 a1_1).bind fun t256 => ((platenref20_truth.f t256 a1_2).bind fun t259 => ((platenref20_numbers.f k t259 (([(l1_3.length : Int)] : List Int))).bind fun t265 => (platenref20_row.l0 k t265 0 a1_0 a1_1 a1_2 l1_3))))) = some r := h
  clear h
  obtain ⟨y250, hy250⟩ : ∃ y_ : List Int, y_ = (([a1_0] : List Int)) := ⟨_, rfl⟩
  replace H : ((platenref20_numbers.f k l0 y250).bind fun t253 => ((platenref20_truth.f t253 a1_1).bind fun t256 => ((platenref20_truth.f t256 a1_2).bind fun t259 => ((platenref20_numbers.f k t259 (([(l1_3.length : Int)] : List Int))).bind fun t265 => (platenref20_row.l0 k t265 0 a1_0 a1_1 a1_2 l1_3))))) = some r := by first | (rw [hy250]; with_reducible exact H) | (have H2_ := (Option.bind_some _ _).symm.trans H; rw [hy250]; with_reducible exact H2_) | (have H2_ := (Option.bind_some _ _).symm.trans H; with_reducible exact H2_) | with_reducible exact H | (rw [hy250]; exact H) | exact H
  have Ny250 := Aside0.mk hy250
  clear hy250
  replace H := Option.bind_eq_some_iff.mp H
  obtain ⟨t253, A30, H⟩ := H
  replace H : ((platenref20_truth.f t253 a1_1).bind fun t256 => ((platenref20_truth.f t256 a1_2).bind fun t259 => ((platenref20_numbers.f k t259 (([(l1_3.length : Int)] : List Int))).bind fun t265 => (platenref20_row.l0 k t265 0 a1_0 a1_1 a1_2 l1_3)))) = some r := H
  have A3 := Aside0.mk A30
  clear A30
  replace H := Option.bind_eq_some_iff.mp H
  obtain ⟨t256, A40, H⟩ := H
  replace H : ((platenref20_truth.f t256 a1_2).bind fun t259 => ((platenref20_numbers.f k t259 (([(l1_3.length : Int)] : List Int))).bind fun t265 => (platenref20_row.l0 k t265 0 a1_0 a1_1 a1_2 l1_3))) = some r := H
  have A4 := Aside0.mk A40
  clear A40
  replace H := Option.bind_eq_some_iff.mp H
  obtain ⟨t259, A50, H⟩ := H
  replace H : ((platenref20_numbers.f k t259 (([(l1_3.length : Int)] : List Int))).bind fun t265 => (platenref20_row.l0 k t265 0 a1_0 a1_1 a1_2 l1_3)) = some r := H
  have A5 := Aside0.mk A50
  clear A50
  obtain ⟨y262, hy262⟩ : ∃ y_ : List Int, y_ = (([(l1_3.length : Int)] : List Int)) := ⟨_, rfl⟩
  replace H : ((platenref20_numbers.f k t259 y262).bind fun t265 => (platenref20_row.l0 k t265 0 a1_0 a1_1 a1_2 l1_3)) = some r := by first | (rw [hy262]; with_reducible exact H) | (have H2_ := (Option.bind_some _ _).symm.trans H; rw [hy262]; with_reducible exact H2_) | (have H2_ := (Option.bind_some _ _).symm.trans H; with_reducible exact H2_) | with_reducible exact H | (rw [hy262]; exact H) | exact H
  have Ny262 := Aside0.mk hy262
  clear hy262
  replace H := Option.bind_eq_some_iff.mp H
  obtain ⟨t265, A60, H⟩ := H
  replace H : (platenref20_row.l0 k t265 0 a1_0 a1_1 a1_2 l1_3) = some r := H
  have A6 := Aside0.mk A60
  clear A60
  have H' := Aside0.mk H
  clear H
  go_enter Try.func26, Try.ntmps26
  go_wp2_with (first | ((with_reducible refine gate_dst (N := 3) rfl ?_); refine box_event ?hg (N := 3) ?hd (cs := #[.int .i64 a1_0, .bool a1_1, .bool a1_2, .slice A1_3 l1_3.length c1_3]) (t := 48) ?hr ?_; (case hd => rfl); (case hg => rfl); (case hr => first | (go_simp; done) | (go_simp; rfl)); intro gb249 hg w7 hbox hb; have n0_ := Aside0.mk (Kd.R_below (by (with_reducible repeat (first | apply Kd.R_alloc | apply Kd.R_drewN | apply Kd.R_drew)); exact HO0.out) hb); have n1_ := Aside0.mk (Kept.below (S := (fun k_ => P0_ k_)) (by repeat (first | (with_reducible first | exact HK.out | apply Kept.alloc | apply Kept.drewN | apply Kept.drew) | exact HK.out)) hb); have n2_ := Aside0.mk (below_step (by repeat (first | (with_reducible first | exact HB.out | apply below_alloc | apply pw_below_drewN | apply below_drew1) | exact HB.out)) hb); have n3_ := Aside0.mk (hbox); have n4_ := Aside0.mk ((by rw [hg]; exact (by first | exact HK.out.1 | exact (show Kept w _ (fun k_ => P0_ k_) from by repeat (first | (with_reducible first | exact HK.out | apply Kept.alloc | apply Kept.drewN | apply Kept.drew) | exact HK.out)).1) : w.heap.size ≤ gb249)); have n5_ := Aside0.mk ((by rw [hg]; exact (below_size (by repeat (first | (with_reducible first | exact HB.out | apply below_alloc | apply pw_below_drewN | apply below_drew1) | exact HB.out))) : w0.heap.size ≤ gb249)); clear HO0; clear HK; clear HB; have HO0 := n0_; have HK := n1_; have HB := n2_; have BK249 := n3_; have GW249 := n4_; have GE249 := n5_; clear n0_ n1_ n2_ n3_ n4_ n5_; clear hb hbox hg; have hcz8_0 : w7.cell? ⟨gb249, 0, none⟩ = some (.int .i64 a1_0) := (blk_cell BK249.out 0).trans rfl; have hcz8_1 : w7.cell? ⟨gb249, 1, none⟩ = some (.bool a1_1) := (blk_cell BK249.out 1).trans rfl; have hcz8_2 : w7.cell? ⟨gb249, 2, none⟩ = some (.bool a1_2) := (blk_cell BK249.out 2).trans rfl; have hcz8_3 : w7.cell? ⟨gb249, 3, none⟩ = some (.slice A1_3 l1_3.length c1_3) := (blk_cell BK249.out 3).trans rfl; have hfz8_0 := blk_frozen BK249.out 0; have hfz8_1 := blk_frozen BK249.out 1; have hfz8_2 := blk_frozen BK249.out 2; have hfz8_3 := blk_frozen BK249.out 3) | ((with_reducible refine gate_dst (N := 9) rfl ?_); refine Kd.R_lit (Kd.int .i64) _ 3 ?hg (N := 9) ?hd (xs := ([a1_0] : List Int)) (inner := [.int .i64 a1_0]) (ok := fun _ => True) (okp := fun _ => True) ?hr ?hp (fun _ hk => hk) trivial (Below.refl _ _) (Nat.le_refl _) (by simp) ?_; (case hd => rfl); (case hg => rfl); (case hr => first | (go_simp; done) | (go_simp; rfl)); (case hp => exact (Reps.one (show Kd.M (Kd.int .i64) _ _ _ a1_0 [.int .i64 a1_0] from rfl) (Reps.none _ _))); intro v251 w9 ho10 hb hg_ hnew_; clear hg_ hnew_; (first | rw [← Ny250.out] at ho10 | (simp only [Int.reduceToNat] at ho10; rw [← Ny250.out] at ho10)); have n0_ := Aside0.mk (Kd.R_below (by (with_reducible repeat (first | apply Kd.R_alloc | apply Kd.R_drewN | apply Kd.R_drew)); exact HO0.out) hb); have n1_ := Aside0.mk (Kd.R_lower (Kd.R_newM (M := fun k_ => (P0_ k_ ∨ w.heap.size ≤ k_)) ho10 (by first | exact HK.out.1 | exact (show Kept w _ (fun k_ => P0_ k_) from by repeat (first | (with_reducible first | exact HK.out | apply Kept.alloc | apply Kept.drewN | apply Kept.drew | refine Kept.setCell ?_ (.inr GW249.out) _) | exact HK.out)).1) (fun k_ h_ => .inr h_)) (below_size (by repeat (first | (with_reducible first | exact HB.out | apply below_alloc | apply pw_below_drewN | apply below_drew1 | refine below_set ?_ GE249.out) | exact HB.out)))); have n2_ := Aside0.mk (blk_below (g := gb249) (o := .cells #[.int .i64 a1_0, .bool a1_1, .bool a1_2, .slice A1_3 l1_3.length c1_3] 48 (0, 0)) (by (with_reducible repeat (first | refine blk_drewN ?_ _ | refine blk_drew ?_ | refine blk_alloc ?_ _)); exact BK249.out) hb); have n3_ := Aside0.mk (Kept.below (S := (fun k_ => P0_ k_)) (by repeat (first | (with_reducible first | exact HK.out | apply Kept.alloc | apply Kept.drewN | apply Kept.drew | refine Kept.setCell ?_ (.inr GW249.out) _) | exact HK.out)) hb); have n4_ := Aside0.mk (below_step (by repeat (first | (with_reducible first | exact HB.out | apply below_alloc | apply pw_below_drewN | apply below_drew1 | refine below_set ?_ GE249.out) | exact HB.out)) hb); clear HO0; clear BK249; clear HK; clear HB; have HO0 := n0_; have HO252 := n1_; have BK249 := n2_; have HK := n3_; have HB := n4_; clear n0_ n1_ n2_ n3_ n4_; clear hb ho10; obtain ⟨Ao11, co11, eo11⟩ := Kd.R_slice HO0.out; subst eo11; obtain ⟨Ao12, co12, eo12⟩ := Kd.R_slice HO252.out; subst eo12) | ((with_reducible refine gate_callee (f := 24) rfl ?_); refine goesL_ (some 10) rfl rfl Try.func24 (by kernel_rfl) rfl #[.slice Ao11 l0.length co11, .slice Ao12 y250.length co12] rfl (by (try simp only [List.map_toArray, List.map_cons, List.map_nil]); first | done | rfl | (simp only [List.length_drop, List.length_take]; rfl)) ?_; (with_reducible refine (platenref20_numbers.calls k (fun k_ => some k_ = (.slice Ao11 l0.length co11 : Value).ownBlock) (.slice Ao11 l0.length co11) l0 _ _ y250 t253 w0 _ ?side1 ?side2 ?side3 ?side4 A3.out).mono ?_); (case side1 => repeat (first | (with_reducible first | exact HB.out | apply below_alloc | apply pw_below_drewN | apply below_drew1 | refine below_set ?_ GE249.out) | exact HB.out)); (case side2 => exact Kd.R_tight rfl HO0.out); (case side3 => exact Kd.C_kept_own ((Kd.R_apart' HO252.out (Kd.R_typed HO0.out) (by decide))) (fun k_ hk_ hs_ => (hk_.2) hs_)); (case side4 => exact (Kd.R_reads' HO252.out).2.1); rintro e w13 ⟨v254, rfl, ho0, hb, hkp⟩; refine ⟨_, rfl, ?_⟩; have n0_ := Aside0.mk (blk_kept (by (with_reducible repeat (first | refine blk_drewN ?_ _ | refine blk_drew ?_ | refine blk_alloc ?_ _)); exact BK249.out) hkp (fun hs_ => (fun e_ => (Kd.R_ne HO0.out BK249.out (by decide)) e_) hs_)); have n1_ := Aside0.mk (Kd.R_mono (ok' := fun k_ => (P0_ k_ ∨ w.heap.size ≤ k_)) (Kd.R_keptB ((Kd.R_apart' HO252.out (Kd.R_typed HO0.out) (by decide))) hkp (fun k_ hk_ hs_ => (hk_.2) hs_)) (fun k_ hk_ => hk_.1.1.1)); have n2_ := Aside0.mk (Kd.R_mono (ok' := fun k_ => (P0_ k_ ∨ w.heap.size ≤ k_)) ho0 (fun k_ hk_ => Or.elim hk_ (fun hs_ => (HO0.out.1 k_ (hs_).symm)) (fun hn_ => (.inr (Nat.le_trans (by first | exact HK.out.1 | exact (show Kept w _ (fun k_ => P0_ k_) from by repeat (first | (with_reducible first | exact HK.out | apply Kept.alloc | apply Kept.drewN | apply Kept.drew | refine Kept.setCell ?_ (.inr GW249.out) _) | exact HK.out)).1) hn_))))); have n3_ := Aside0.mk (Kept.then_ (S := (fun k_ => P0_ k_)) (by repeat (first | (with_reducible first | exact HK.out | apply Kept.alloc | apply Kept.drewN | apply Kept.drew | refine Kept.setCell ?_ (.inr GW249.out) _) | exact HK.out)) hkp (fun k_ hs_ => (fun e_ => (HO0.out.1 k_ e_.symm)) hs_)); have n4_ := Aside0.mk (hb); clear BK249; clear HO252; clear HK; clear HB; clear HO0; have BK249 := n0_; have HO252 := n1_; have HO255 := n2_; have HK := n3_; have HB := n4_; clear n0_ n1_ n2_ n3_ n4_; (try clear hb); (try clear hkp); (try clear ho0); have hcz14_0 : w13.cell? ⟨gb249, 0, none⟩ = some (.int .i64 a1_0) := (blk_cell BK249.out 0).trans rfl; have hcz14_1 : w13.cell? ⟨gb249, 1, none⟩ = some (.bool a1_1) := (blk_cell BK249.out 1).trans rfl; have hcz14_2 : w13.cell? ⟨gb249, 2, none⟩ = some (.bool a1_2) := (blk_cell BK249.out 2).trans rfl; have hcz14_3 : w13.cell? ⟨gb249, 3, none⟩ = some (.slice A1_3 l1_3.length c1_3) := (blk_cell BK249.out 3).trans rfl; have hfz14_0 := blk_frozen BK249.out 0; have hfz14_1 := blk_frozen BK249.out 1; have hfz14_2 := blk_frozen BK249.out 2; have hfz14_3 := blk_frozen BK249.out 3; obtain ⟨Ao15, co15, eo15⟩ := Kd.R_slice HO255.out; subst eo15) | ((with_reducible refine gate_callee (f := 25) rfl ?_); refine goesL_ (some 14) rfl rfl Try.func25 (by kernel_rfl) rfl #[.slice Ao15 t253.length co15, .bool a1_1] rfl (by (try simp only [List.map_toArray, List.map_cons, List.map_nil]); first | done | rfl | (simp only [List.length_drop, List.length_take]; rfl)) ?_; (with_reducible refine (platenref20_truth.calls (fun k_ => some k_ = (.slice Ao15 t253.length co15 : Value).ownBlock) (.slice Ao15 t253.length co15) t253 a1_1 t256 w0 _ ?side1 ?side2 A4.out).mono ?_); (case side1 => repeat (first | (with_reducible first | exact HB.out | apply below_alloc | apply pw_below_drewN | apply below_drew1 | refine below_set ?_ GE249.out) | exact HB.out)); (case side2 => exact Kd.R_tight rfl HO255.out); rintro e w16 ⟨v257, rfl, ho0, hb, hkp⟩; refine ⟨_, rfl, ?_⟩; have n0_ := Aside0.mk (blk_kept (by (with_reducible repeat (first | refine blk_drewN ?_ _ | refine blk_drew ?_ | refine blk_alloc ?_ _)); exact BK249.out) hkp (fun hs_ => (fun e_ => (Kd.R_ne HO255.out BK249.out (by decide)) e_) hs_)); have n1_ := Aside0.mk (Kd.R_mono (ok' := fun k_ => (P0_ k_ ∨ w.heap.size ≤ k_)) (Kd.R_keptB ((Kd.R_apart' HO252.out (Kd.R_typed HO255.out) (by decide))) hkp (fun k_ hk_ hs_ => (hk_.2) hs_)) (fun k_ hk_ => hk_.1.1)); have n2_ := Aside0.mk (Kd.R_mono (ok' := fun k_ => (P0_ k_ ∨ w.heap.size ≤ k_)) ho0 (fun k_ hk_ => Or.elim hk_ (fun hs_ => (HO255.out.1 k_ (hs_).symm)) (fun hn_ => (.inr (Nat.le_trans (by first | exact HK.out.1 | exact (show Kept w _ (fun k_ => P0_ k_) from by repeat (first | (with_reducible first | exact HK.out | apply Kept.alloc | apply Kept.drewN | apply Kept.drew | refine Kept.setCell ?_ (.inr GW249.out) _) | exact HK.out)).1) hn_))))); have n3_ := Aside0.mk (Kept.then_ (S := (fun k_ => P0_ k_)) (by repeat (first | (with_reducible first | exact HK.out | apply Kept.alloc | apply Kept.drewN | apply Kept.drew | refine Kept.setCell ?_ (.inr GW249.out) _) | exact HK.out)) hkp (fun k_ hs_ => (fun e_ => (HO255.out.1 k_ e_.symm)) hs_)); have n4_ := Aside0.mk (hb); clear BK249; clear HO252; clear HK; clear HB; clear HO255; have BK249 := n0_; have HO252 := n1_; have HO258 := n2_; have HK := n3_; have HB := n4_; clear n0_ n1_ n2_ n3_ n4_; (try clear hb); (try clear hkp); (try clear ho0); have hcz17_0 : w16.cell? ⟨gb249, 0, none⟩ = some (.int .i64 a1_0) := (blk_cell BK249.out 0).trans rfl; have hcz17_1 : w16.cell? ⟨gb249, 1, none⟩ = some (.bool a1_1) := (blk_cell BK249.out 1).trans rfl; have hcz17_2 : w16.cell? ⟨gb249, 2, none⟩ = some (.bool a1_2) := (blk_cell BK249.out 2).trans rfl; have hcz17_3 : w16.cell? ⟨gb249, 3, none⟩ = some (.slice A1_3 l1_3.length c1_3) := (blk_cell BK249.out 3).trans rfl; have hfz17_0 := blk_frozen BK249.out 0; have hfz17_1 := blk_frozen BK249.out 1; have hfz17_2 := blk_frozen BK249.out 2; have hfz17_3 := blk_frozen BK249.out 3; obtain ⟨Ao18, co18, eo18⟩ := Kd.R_slice HO258.out; subst eo18) | ((with_reducible refine gate_callee (f := 25) rfl ?_); refine goesL_ (some 18) rfl rfl Try.func25 (by kernel_rfl) rfl #[.slice Ao18 t256.length co18, .bool a1_2] rfl (by (try simp only [List.map_toArray, List.map_cons, List.map_nil]); first | done | rfl | (simp only [List.length_drop, List.length_take]; rfl)) ?_; (with_reducible refine (platenref20_truth.calls (fun k_ => some k_ = (.slice Ao18 t256.length co18 : Value).ownBlock) (.slice Ao18 t256.length co18) t256 a1_2 t259 w0 _ ?side1 ?side2 A5.out).mono ?_); (case side1 => repeat (first | (with_reducible first | exact HB.out | apply below_alloc | apply pw_below_drewN | apply below_drew1 | refine below_set ?_ GE249.out) | exact HB.out)); (case side2 => exact Kd.R_tight rfl HO258.out); rintro e w19 ⟨v260, rfl, ho0, hb, hkp⟩; refine ⟨_, rfl, ?_⟩; have n0_ := Aside0.mk (blk_kept (by (with_reducible repeat (first | refine blk_drewN ?_ _ | refine blk_drew ?_ | refine blk_alloc ?_ _)); exact BK249.out) hkp (fun hs_ => (fun e_ => (Kd.R_ne HO258.out BK249.out (by decide)) e_) hs_)); have n1_ := Aside0.mk (Kd.R_mono (ok' := fun k_ => (P0_ k_ ∨ w.heap.size ≤ k_)) (Kd.R_keptB ((Kd.R_apart' HO252.out (Kd.R_typed HO258.out) (by decide))) hkp (fun k_ hk_ hs_ => (hk_.2) hs_)) (fun k_ hk_ => hk_.1.1)); have n2_ := Aside0.mk (Kd.R_mono (ok' := fun k_ => (P0_ k_ ∨ w.heap.size ≤ k_)) ho0 (fun k_ hk_ => Or.elim hk_ (fun hs_ => (HO258.out.1 k_ (hs_).symm)) (fun hn_ => (.inr (Nat.le_trans (by first | exact HK.out.1 | exact (show Kept w _ (fun k_ => P0_ k_) from by repeat (first | (with_reducible first | exact HK.out | apply Kept.alloc | apply Kept.drewN | apply Kept.drew | refine Kept.setCell ?_ (.inr GW249.out) _) | exact HK.out)).1) hn_))))); have n3_ := Aside0.mk (Kept.then_ (S := (fun k_ => P0_ k_)) (by repeat (first | (with_reducible first | exact HK.out | apply Kept.alloc | apply Kept.drewN | apply Kept.drew | refine Kept.setCell ?_ (.inr GW249.out) _) | exact HK.out)) hkp (fun k_ hs_ => (fun e_ => (HO258.out.1 k_ e_.symm)) hs_)); have n4_ := Aside0.mk (hb); clear BK249; clear HO252; clear HK; clear HB; clear HO258; have BK249 := n0_; have HO252 := n1_; have HO261 := n2_; have HK := n3_; have HB := n4_; clear n0_ n1_ n2_ n3_ n4_; (try clear hb); (try clear hkp); (try clear ho0); have hcz20_0 : w19.cell? ⟨gb249, 0, none⟩ = some (.int .i64 a1_0) := (blk_cell BK249.out 0).trans rfl; have hcz20_1 : w19.cell? ⟨gb249, 1, none⟩ = some (.bool a1_1) := (blk_cell BK249.out 1).trans rfl; have hcz20_2 : w19.cell? ⟨gb249, 2, none⟩ = some (.bool a1_2) := (blk_cell BK249.out 2).trans rfl; have hcz20_3 : w19.cell? ⟨gb249, 3, none⟩ = some (.slice A1_3 l1_3.length c1_3) := (blk_cell BK249.out 3).trans rfl; have hfz20_0 := blk_frozen BK249.out 0; have hfz20_1 := blk_frozen BK249.out 1; have hfz20_2 := blk_frozen BK249.out 2; have hfz20_3 := blk_frozen BK249.out 3) | ((with_reducible refine gate_dst (N := 23) rfl ?_); refine Kd.R_lit (Kd.int .i64) _ 3 ?hg (N := 23) ?hd (xs := ([(l1_3.length : Int)] : List Int)) (inner := [.int .i64 (l1_3.length : Int)]) (ok := fun _ => True) (okp := fun _ => True) ?hr ?hp (fun _ hk => hk) trivial (Below.refl _ _) (Nat.le_refl _) (by simp) ?_; (case hd => rfl); (case hg => rfl); (case hr => first | (go_simp; done) | (go_simp; rfl)); (case hp => exact (Reps.one (show Kd.M (Kd.int .i64) _ _ _ (l1_3.length : Int) [.int .i64 (l1_3.length : Int)] from rfl) (Reps.none _ _))); intro v263 w21 ho22 hb hg_ hnew_; clear hg_ hnew_; (first | rw [← Ny262.out] at ho22 | (simp only [Int.reduceToNat] at ho22; rw [← Ny262.out] at ho22)); have n0_ := Aside0.mk (Kd.R_elder' (by (with_reducible repeat (first | apply Kd.R_alloc | apply Kd.R_drewN | apply Kd.R_drew)); exact HO252.out) (Kd.R_base ho22) hb); have n1_ := Aside0.mk (Kd.R_below (by (with_reducible repeat (first | apply Kd.R_alloc | apply Kd.R_drewN | apply Kd.R_drew)); exact HO261.out) hb); have n2_ := Aside0.mk (Kd.R_lower (Kd.R_new' (Kd.R_newM (M := fun k_ => (P0_ k_ ∨ w.heap.size ≤ k_)) ho22 (by first | exact HK.out.1 | exact (show Kept w _ (fun k_ => P0_ k_) from by repeat (first | (with_reducible first | exact HK.out | apply Kept.alloc | apply Kept.drewN | apply Kept.drew | refine Kept.setCell ?_ (.inr GW249.out) _) | exact HK.out)).1) (fun k_ h_ => .inr h_)) (Kd.R_lt (by (with_reducible repeat (first | apply Kd.R_alloc | apply Kd.R_drewN | apply Kd.R_drew)); exact HO252.out))) (below_size (by repeat (first | (with_reducible first | exact HB.out | apply below_alloc | apply pw_below_drewN | apply below_drew1 | refine below_set ?_ GE249.out) | exact HB.out)))); have n3_ := Aside0.mk (blk_below (g := gb249) (o := .cells #[.int .i64 a1_0, .bool a1_1, .bool a1_2, .slice A1_3 l1_3.length c1_3] 48 (0, 0)) (by (with_reducible repeat (first | refine blk_drewN ?_ _ | refine blk_drew ?_ | refine blk_alloc ?_ _)); exact BK249.out) hb); have n4_ := Aside0.mk (Kept.below (S := (fun k_ => P0_ k_)) (by repeat (first | (with_reducible first | exact HK.out | apply Kept.alloc | apply Kept.drewN | apply Kept.drew | refine Kept.setCell ?_ (.inr GW249.out) _) | exact HK.out)) hb); have n5_ := Aside0.mk (below_step (by repeat (first | (with_reducible first | exact HB.out | apply below_alloc | apply pw_below_drewN | apply below_drew1 | refine below_set ?_ GE249.out) | exact HB.out)) hb); clear HO252; clear HO261; clear BK249; clear HK; clear HB; have HO252 := n0_; have HO261 := n1_; have HO264 := n2_; have BK249 := n3_; have HK := n4_; have HB := n5_; clear n0_ n1_ n2_ n3_ n4_ n5_; clear hb ho22; obtain ⟨Ao23, co23, eo23⟩ := Kd.R_slice HO261.out; subst eo23; obtain ⟨Ao24, co24, eo24⟩ := Kd.R_slice HO264.out; subst eo24) | ((with_reducible refine gate_callee (f := 24) rfl ?_); refine goesL_ (some 24) rfl rfl Try.func24 (by kernel_rfl) rfl #[.slice Ao23 t259.length co23, .slice Ao24 y262.length co24] rfl (by (try simp only [List.map_toArray, List.map_cons, List.map_nil]); first | done | rfl | (simp only [List.length_drop, List.length_take]; rfl)) ?_; (with_reducible refine (platenref20_numbers.calls k (fun k_ => some k_ = (.slice Ao23 t259.length co23 : Value).ownBlock) (.slice Ao23 t259.length co23) t259 _ _ y262 t265 w0 _ ?side1 ?side2 ?side3 ?side4 A6.out).mono ?_); (case side1 => repeat (first | (with_reducible first | exact HB.out | apply below_alloc | apply pw_below_drewN | apply below_drew1 | refine below_set ?_ GE249.out) | exact HB.out)); (case side2 => exact Kd.R_tight rfl HO261.out); (case side3 => exact Kd.C_kept_own ((Kd.R_apart' HO264.out (Kd.R_typed HO261.out) (by decide))) (fun k_ hk_ hs_ => (hk_.2) hs_)); (case side4 => exact (Kd.R_reads' HO264.out).2.1); rintro e w25 ⟨v266, rfl, ho0, hb, hkp⟩; refine ⟨_, rfl, ?_⟩; have n0_ := Aside0.mk (blk_kept (by (with_reducible repeat (first | refine blk_drewN ?_ _ | refine blk_drew ?_ | refine blk_alloc ?_ _)); exact BK249.out) hkp (fun hs_ => (fun e_ => (Kd.R_ne HO261.out BK249.out (by decide)) e_) hs_)); have n1_ := Aside0.mk (Kd.R_mono (ok' := fun k_ => (P0_ k_ ∨ w.heap.size ≤ k_) ∧ some k_ ≠ (.slice Ao24 y262.length co24 : Value).ownBlock) (Kd.R_keptB ((Kd.R_apart' HO252.out (Kd.R_typed HO261.out) (by decide))) hkp (fun k_ hk_ hs_ => (hk_.2) hs_)) (fun k_ hk_ => ⟨hk_.1.1.1, hk_.1.1.2⟩)); have n2_ := Aside0.mk (Kd.R_mono (ok' := fun k_ => (P0_ k_ ∨ w.heap.size ≤ k_) ∧ some k_ ≠ (.slice Ao12 y250.length co12 : Value).ownBlock) (Kd.R_keptB ((Kd.R_apart' HO264.out (Kd.R_typed HO261.out) (by decide))) hkp (fun k_ hk_ hs_ => (hk_.2) hs_)) (fun k_ hk_ => ⟨hk_.1.1.1.1, hk_.1.1.2⟩)); have n3_ := Aside0.mk (Kd.R_mono (ok' := fun k_ => (P0_ k_ ∨ w.heap.size ≤ k_)) ho0 (fun k_ hk_ => Or.elim hk_ (fun hs_ => (HO261.out.1 k_ (hs_).symm)) (fun hn_ => (.inr (Nat.le_trans (by first | exact HK.out.1 | exact (show Kept w _ (fun k_ => P0_ k_) from by repeat (first | (with_reducible first | exact HK.out | apply Kept.alloc | apply Kept.drewN | apply Kept.drew | refine Kept.setCell ?_ (.inr GW249.out) _) | exact HK.out)).1) hn_))))); have n4_ := Aside0.mk (Kept.then_ (S := (fun k_ => P0_ k_)) (by repeat (first | (with_reducible first | exact HK.out | apply Kept.alloc | apply Kept.drewN | apply Kept.drew | refine Kept.setCell ?_ (.inr GW249.out) _) | exact HK.out)) hkp (fun k_ hs_ => (fun e_ => (HO261.out.1 k_ e_.symm)) hs_)); have n5_ := Aside0.mk (hb); clear BK249; clear HO252; clear HO264; clear HK; clear HB; clear HO261; have BK249 := n0_; have HO252 := n1_; have HO264 := n2_; have HO267 := n3_; have HK := n4_; have HB := n5_; clear n0_ n1_ n2_ n3_ n4_ n5_; (try clear hb); (try clear hkp); (try clear ho0)))
  go_loopg [0, 5] k (fun kq v0 v5 w' => ∃ (x0_1 : List Int) (x5_1 : Int), v5 = .int .i64 x5_1 ∧ Aside0 (platenref20_row.l0 kq x0_1 x5_1 a1_0 a1_1 a1_2 l1_3 = some r) ∧ Aside0 (kq ≤ k) ∧ Aside0 (Kd.R (Kd.int .u8) 5 w' w0.heap.size (fun k_ => (P0_ k_ ∨ w.heap.size ≤ k_)) v0 x0_1) ∧ Aside0 (w'.heap[gb249]? = some (.cells #[.int .i64 a1_0, .bool a1_1, .bool a1_2, (.slice A1_3 l1_3.length c1_3)] 48 (0, 0))) ∧ Aside0 (Kept w w' (fun k_ => P0_ k_)) ∧ Aside0 (Below w0.heap.size w0 w'))
  case atStart => exact ⟨(t265), (0), (by first | rfl | (simp; done) | (simp [*]; done)), H', ⟨Nat.le_refl _⟩, ⟨by (with_reducible repeat (first | apply Kd.R_alloc | apply Kd.R_drewN | apply Kd.R_drew)); exact HO267.out⟩, ⟨by (with_reducible repeat (first | refine blk_drewN ?_ _ | refine blk_drew ?_ | refine blk_alloc ?_ _)); exact BK249.out⟩, ⟨by repeat (first | (with_reducible first | exact HK.out | apply Kept.alloc | apply Kept.drewN | apply Kept.drew | refine Kept.setCell ?_ (.inr GW249.out) _) | exact HK.out)⟩, ⟨by repeat (first | (with_reducible first | exact HB.out | apply below_alloc | apply pw_below_drewN | apply below_drew1 | refine below_set ?_ GE249.out) | exact HB.out)⟩⟩
  case round =>
    clear H'
    try clear c1
    try clear c2
    try clear p2
    try clear c24
    try clear c25
    try clear hcz14_0
    try clear hcz14_1
    try clear hcz14_2
    try clear hcz14_3
    try clear hcz17_0
    try clear hcz17_1
    try clear hcz17_2
    try clear hcz17_3
    try clear hcz20_0
    try clear hcz20_1
    try clear hcz20_2
    try clear hcz20_3
    try clear hcz8_0
    try clear hcz8_1
    try clear hcz8_2
    try clear hcz8_3
    try clear hfz14_0
    try clear hfz14_1
    try clear hfz14_2
    try clear hfz14_3
    try clear hfz17_0
    try clear hfz17_1
    try clear hfz17_2
    try clear hfz17_3
    try clear hfz20_0
    try clear hfz20_1
    try clear hfz20_2
    try clear hfz20_3
    try clear hfz8_0
    try clear hfz8_1
    try clear hfz8_2
    try clear hfz8_3
    obtain ⟨x0_1, x5_1, rfl, HA, HK1, HO_0, BK249, HK, HB⟩ := hrel
    cases gk with
    | zero => exact absurd HA.out (by simp [platenref20_row.l0])
    | succ k1 =>
      have H := HA.out
      clear HA
      simp only [platenref20_row.l0] at H
      by_cases c26 : x5_1 < (l1_3.length : Int)
      · rw [if_pos c26] at H
        have c26b0 : decide (x5_1 < (l1_3.length : Int)) = true := decide_eq_true c26
        clear c26
        by_cases c27 : 0 ≤ x5_1
        · rw [if_pos c27] at H
          have c27b0 : decide (0 ≤ x5_1) = true := decide_eq_true c27
          clear c27
          replace H := Option.bind_eq_some_iff.mp H
          obtain ⟨t269, A280, H⟩ := H
          replace H : (platenref20_row.l0 k1 t269 (wrap64 (x5_1 + 1)) a1_0 a1_1 a1_2 l1_3) = some r := H
          have A28 := Aside0.mk A280
          clear A280
          have H' := Aside0.mk H
          clear H
          have hcz29_0 : wr.cell? ⟨gb249, 0, none⟩ = some (.int .i64 a1_0) := (blk_cell BK249.out 0).trans rfl
          have hcz29_1 : wr.cell? ⟨gb249, 1, none⟩ = some (.bool a1_1) := (blk_cell BK249.out 1).trans rfl
          have hcz29_2 : wr.cell? ⟨gb249, 2, none⟩ = some (.bool a1_2) := (blk_cell BK249.out 2).trans rfl
          have hcz29_3 : wr.cell? ⟨gb249, 3, none⟩ = some (.slice A1_3 l1_3.length c1_3) := (blk_cell BK249.out 3).trans rfl
          have hfz29_0 := blk_frozen BK249.out 0
          have hfz29_1 := blk_frozen BK249.out 1
          have hfz29_2 := blk_frozen BK249.out 2
          have hfz29_3 := blk_frozen BK249.out 3
          have p268 : 0 ≤ (x5_1 : Int) := of_decide_eq_true (by first | (with_reducible assumption) | assumption)
          have q268 : x5_1 < (l1_3.length : Int) := of_decide_eq_true (by first | (with_reducible assumption) | assumption)
          obtain ⟨ad268, e268, hx268_0, hx268_1, hx268_2, hx268_3, hx268_4, hx268_5, hx268_6, hx268_7, hx268_8, hx268_9⟩ := at_T50 (Kd.C_kept_now HR1_3.out HK.out) x5_1 p268 q268
          cases e268
          replace p268 := eq_true p268
          replace q268 := eq_true q268
          obtain ⟨Ao30, co30, eo30⟩ := Kd.R_slice HO_0.out
          subst eo30
          go_wp2_with (first | ((with_reducible refine gate_callee (f := 39) rfl ?_); refine goesL_ (some 38) rfl rfl Try.func39 (by kernel_rfl) rfl #[.slice Ao30 x0_1.length co30, .agg #[.int .i64 ((rd_T50 l1_3 x5_1).f0), .int .i64 ((rd_T50 l1_3 x5_1).f1), .string ((rd_T50 l1_3 x5_1).f2), .int .i64 ((rd_T50 l1_3 x5_1).f3), .int .i64 ((rd_T50 l1_3 x5_1).f4), .int .i64 ((rd_T50 l1_3 x5_1).f5), .int .i64 ((rd_T50 l1_3 x5_1).f6), .int .i64 ((rd_T50 l1_3 x5_1).f7), .int .i64 ((rd_T50 l1_3 x5_1).f8), .int .i64 ((rd_T50 l1_3 x5_1).f9)]] rfl (by (try simp only [List.map_toArray, List.map_cons, List.map_nil]); first | done | rfl | (simp only [List.length_drop, List.length_take]; rfl)) ?_; (with_reducible refine (platenref20_box.calls k1 (fun k_ => some k_ = (.slice Ao30 x0_1.length co30 : Value).ownBlock) (.slice Ao30 x0_1.length co30) x0_1 ((rd_T50 l1_3 x5_1).f0) ((rd_T50 l1_3 x5_1).f1) ((rd_T50 l1_3 x5_1).f2) ((rd_T50 l1_3 x5_1).f3) ((rd_T50 l1_3 x5_1).f4) ((rd_T50 l1_3 x5_1).f5) ((rd_T50 l1_3 x5_1).f6) ((rd_T50 l1_3 x5_1).f7) ((rd_T50 l1_3 x5_1).f8) ((rd_T50 l1_3 x5_1).f9) t269 w0 _ ?side1 ?side2 A28.out).mono ?_); (case side1 => repeat (first | (with_reducible first | exact HB.out | apply below_alloc | apply pw_below_drewN | apply below_drew1 | refine below_set ?_ GE249.out) | exact HB.out)); (case side2 => exact Kd.R_tight rfl HO_0.out); rintro e w31 ⟨v270, rfl, ho0, hb, hkp⟩; refine ⟨_, rfl, ?_⟩; have n0_ := Aside0.mk (blk_kept (by (with_reducible repeat (first | refine blk_drewN ?_ _ | refine blk_drew ?_ | refine blk_alloc ?_ _)); exact BK249.out) hkp (fun hs_ => (fun e_ => (Kd.R_ne HO_0.out BK249.out (by decide)) e_) hs_)); have n1_ := Aside0.mk (Kd.R_mono (ok' := fun k_ => (P0_ k_ ∨ w.heap.size ≤ k_)) ho0 (fun k_ hk_ => Or.elim hk_ (fun hs_ => (HO_0.out.1 k_ (hs_).symm)) (fun hn_ => (.inr (Nat.le_trans (by first | exact HK.out.1 | exact (show Kept w _ (fun k_ => P0_ k_) from by repeat (first | (with_reducible first | exact HK.out | apply Kept.alloc | apply Kept.drewN | apply Kept.drew | refine Kept.setCell ?_ (.inr GW249.out) _) | exact HK.out)).1) hn_))))); have n2_ := Aside0.mk (Kept.then_ (S := (fun k_ => P0_ k_)) (by repeat (first | (with_reducible first | exact HK.out | apply Kept.alloc | apply Kept.drewN | apply Kept.drew | refine Kept.setCell ?_ (.inr GW249.out) _) | exact HK.out)) hkp (fun k_ hs_ => (fun e_ => (HO_0.out.1 k_ e_.symm)) hs_)); have n3_ := Aside0.mk (hb); clear BK249; clear HK; clear HB; clear HO_0; have BK249 := n0_; have HO271 := n1_; have HK := n2_; have HB := n3_; clear n0_ n1_ n2_ n3_; (try clear hb); (try clear hkp); (try clear ho0)))
          go_roundg k1
          case measure => have := HK1.out; omega
          case rel => exact ⟨(t269), (wrap64 (x5_1 + 1)), (by first | rfl | (simp; done) | (simp [*]; done)), H', ⟨by have := HK1.out; omega⟩, ⟨by (with_reducible repeat (first | apply Kd.R_alloc | apply Kd.R_drewN | apply Kd.R_drew)); exact HO271.out⟩, ⟨by (with_reducible repeat (first | refine blk_drewN ?_ _ | refine blk_drew ?_ | refine blk_alloc ?_ _)); exact BK249.out⟩, ⟨by repeat (first | (with_reducible first | exact HK.out | apply Kept.alloc | apply Kept.drewN | apply Kept.drew | refine Kept.setCell ?_ (.inr GW249.out) _) | exact HK.out)⟩, ⟨by repeat (first | (with_reducible first | exact HB.out | apply below_alloc | apply pw_below_drewN | apply below_drew1 | refine below_set ?_ GE249.out) | exact HB.out)⟩⟩
        · rw [if_neg c27] at H
          exact absurd H (by simp)
      · rw [if_neg c26] at H
        have c26b0 : decide (x5_1 < (l1_3.length : Int)) = false := decide_eq_false c26
        clear c26
        obtain rfl := Option.some.inj H
        have hcz32_0 : wr.cell? ⟨gb249, 0, none⟩ = some (.int .i64 a1_0) := (blk_cell BK249.out 0).trans rfl
        have hcz32_1 : wr.cell? ⟨gb249, 1, none⟩ = some (.bool a1_1) := (blk_cell BK249.out 1).trans rfl
        have hcz32_2 : wr.cell? ⟨gb249, 2, none⟩ = some (.bool a1_2) := (blk_cell BK249.out 2).trans rfl
        have hcz32_3 : wr.cell? ⟨gb249, 3, none⟩ = some (.slice A1_3 l1_3.length c1_3) := (blk_cell BK249.out 3).trans rfl
        have hfz32_0 := blk_frozen BK249.out 0
        have hfz32_1 := blk_frozen BK249.out 1
        have hfz32_2 := blk_frozen BK249.out 2
        have hfz32_3 := blk_frozen BK249.out 3
        go_wp2
        go_ret
        exact ⟨_, by first | rfl | (simp [errW_none, errW_some] <;> rfl) | (simp [*, errW_none, errW_some] <;> rfl), by (with_reducible repeat (first | apply Kd.R_alloc | apply Kd.R_drewN | apply Kd.R_drew)); exact HO_0.out, by repeat (first | (with_reducible first | exact HB.out | apply below_alloc | apply pw_below_drewN | apply below_drew1 | refine below_set ?_ GE249.out) | exact HB.out), by repeat (first | (with_reducible first | exact HK.out | apply Kept.alloc | apply Kept.drewN | apply Kept.drew | refine Kept.setCell ?_ (.inr GW249.out) _) | exact HK.out)⟩
attribute [local go_sem] max2_int min2_int max_two min_two max_three min_three max_four min_four   -- for this text's walks alone
def platenref20_Sum.l0 : Nat → List Int → Int → Int → Option (Int)
  | 0, _, _, _ => none
  | k + 1, x0, x3, x4 => if x4 < (x0.length : Int) then (if 0 ≤ x4 then (platenref20_Sum.l0 k x0 (IntKind.u64.wrap ((Go.bits .xor .u64 x3 (IntKind.u64.wrap (rd x0 x4))) * 1099511628211)) (wrap64 (x4 + 1))) else (none)) else (some x3)
def platenref20_Sum.f (k : Nat) (l0 : List Int) : Option (Int) := platenref20_Sum.l0 k l0 14695981039346656037 0
theorem platenref20_Sum.mono_l : ∀ k, (∀ y0 y1 y2, LeO (platenref20_Sum.l0 k y0 y1 y2) (platenref20_Sum.l0 (k + 1) y0 y1 y2))
  | 0 => fun _ _ _ r h => by simp [platenref20_Sum.l0] at h
  | k + 1 => by
    have ih0 := platenref20_Sum.mono_l k
    · intro y0 y1 y2
      unfold platenref20_Sum.l0
      repeat' first
      | (with_reducible exact ih0 _ _ _)
      | (with_reducible exact LeO.refl _)
      | (with_reducible exact LeO.none _)
      | (with_reducible refine LeO.ite ?_ ?_)
      | (with_reducible refine LeO.bind ?_ (fun _ => ?_))
      | exact ih0 _ _ _
      | exact LeO.none _
      | refine LeO.ite ?_ ?_
      | refine LeO.bind ?_ (fun _ => ?_)
theorem platenref20_Sum.mono : ∀ a0 k, LeO (platenref20_Sum.f k a0) (platenref20_Sum.f (k + 1) a0) := by
  intro a0 k
  have ih0 := platenref20_Sum.mono_l k
  unfold platenref20_Sum.f
  repeat' first
      | (with_reducible exact ih0 _ _ _)
      | (with_reducible exact LeO.refl _)
      | (with_reducible exact LeO.none _)
      | (with_reducible refine LeO.ite ?_ ?_)
      | (with_reducible refine LeO.bind ?_ (fun _ => ?_))
      | exact ih0 _ _ _
      | exact LeO.none _
      | refine LeO.ite ?_ ?_
      | refine LeO.bind ?_ (fun _ => ?_)
set_option maxHeartbeats 8000000 in
set_option maxRecDepth 100000 in
theorem platenref20_Sum.calls (k : Nat) (A0 : Option Addr) (c0 : Nat) (l0 : List Int) (r : Int) (w : World) (hr0 : Kd.C (Kd.int .u8) w A0 l0.length l0) (hc0 : l0.length ≤ c0) (h : platenref20_Sum.f k l0 = some r) :
    Calls Try.prog 28 #[.slice A0 l0.length c0] w fun e w' => e = .returned (.int .u64 r) ∧ Drawn0 w w' := by
  have HR0 := Aside0.mk hr0
  have HC0 := Aside0.mk hc0
  clear hr0 hc0
  have H : (platenref20_Sum.l0 k l0 14695981039346656037 0) = some r := h
  clear h
  have H' := Aside0.mk H
  clear H
  go_enter Try.func28, Try.ntmps28
  go_wp2
  go_loopg [3, 4] k (fun kq v3 v4 w' => ∃ (x3_1 : Int) (x4_1 : Int), v3 = .int .u64 x3_1 ∧ v4 = .int .i64 x4_1 ∧ Aside0 (platenref20_Sum.l0 kq l0 x3_1 x4_1 = some r) ∧ Aside0 (kq ≤ k) ∧ Drawn0 w w')
  case atStart => exact ⟨(14695981039346656037), (0), (by first | rfl | (simp; done) | (simp [*]; done)), (by first | rfl | (simp; done) | (simp [*]; done)), H', ⟨Nat.le_refl _⟩, by repeat (first | exact Drawn0.refl _ | apply Drawn0.step)⟩
  case round =>
    clear H'
    obtain ⟨x3_1, x4_1, rfl, rfl, HA, HK1, ⟨m1, rfl⟩⟩ := hrel
    cases gk with
    | zero => exact absurd HA.out (by simp [platenref20_Sum.l0])
    | succ k1 =>
      have H := HA.out
      clear HA
      simp only [platenref20_Sum.l0] at H
      by_cases c2 : x4_1 < (l0.length : Int)
      · rw [if_pos c2] at H
        have c2b0 : decide (x4_1 < (l0.length : Int)) = true := decide_eq_true c2
        clear c2
        by_cases c3 : 0 ≤ x4_1
        · rw [if_pos c3] at H
          have c3b0 : decide (0 ≤ x4_1) = true := decide_eq_true c3
          clear c3
          have H' := Aside0.mk H
          clear H
          have p272 : 0 ≤ (x4_1 : Int) := of_decide_eq_true (by first | (with_reducible assumption) | assumption)
          have q272 : x4_1 < (l0.length : Int) := of_decide_eq_true (by first | (with_reducible assumption) | assumption)
          obtain ⟨ad272, e272, hx272_0⟩ := Kd.at_int HR0.out x4_1 p272 q272
          cases e272
          replace p272 := eq_true p272
          replace q272 := eq_true q272
          go_wp2
          go_roundg k1
          case measure => have := HK1.out; omega
          case rel => exact ⟨(IntKind.u64.wrap ((Go.bits .xor .u64 x3_1 (IntKind.u64.wrap (rd l0 x4_1))) * 1099511628211)), (wrap64 (x4_1 + 1)), (by first | rfl | (simp; done) | (simp [*]; done)), (by first | rfl | (simp; done) | (simp [*]; done)), H', ⟨by have := HK1.out; omega⟩, by repeat (first | exact Drawn0.refl _ | apply Drawn0.step)⟩
        · rw [if_neg c3] at H
          exact absurd H (by simp)
      · rw [if_neg c2] at H
        have c2b0 : decide (x4_1 < (l0.length : Int)) = false := decide_eq_false c2
        clear c2
        obtain rfl := Option.some.inj H
        go_wp2
        go_ret
        exact ⟨by first | rfl | (simp; done) | (simp [*]; done), by repeat (first | exact Drawn0.refl _ | apply Drawn0.step)⟩
attribute [local go_sem] max2_int min2_int max_two min_two max_three min_three max_four min_four   -- for this text's walks alone
mutual
def platenref20_Put.j0 : Nat → Bool → Int → Int → Int → Int → List (S45) → Option (List Int × Int)
  | 0, _, _, _, _, _, _ => none
  | k + 1, x27, x274000, x274001, x274002, x274003, x274004 => if x27 = true then (some (([] : List Int), 200)) else ((platenref20_numbers.f k (([112, 108, 97, 116, 101, 110, 65, 49] : List Int)) (([x274000, x274001, x274002, x274003, (x274004.length : Int)] : List Int))).bind fun t280 => (platenref20_Put.l0 k t280 0 x274000 x274001 x274002 x274003 x274004))
def platenref20_Put.l0 : Nat → List Int → Int → Int → Int → Int → Int → List (S45) → Option (List Int × Int)
  | 0, _, _, _, _, _, _, _ => none
  | k + 1, x4, x5, x274000, x274001, x274002, x274003, x274004 => if x5 < (x274004.length : Int) then (if 0 ≤ x5 then ((platenref20_numbers.f k x4 (([(rd_T45 x274004 x5).f0, (rd_T45 x274004 x5).f1] : List Int))).bind fun t292 => ((platenref20_truth.f t292 ((rd_T45 x274004 x5).f2)).bind fun t295 => ((platenref20_numbers.f k t295 (([(((rd_T45 x274004 x5).f3).length : Int)] : List Int))).bind fun t301 => (platenref20_Put.l1 k t301 x5 0 x274000 x274001 x274002 x274003 x274004 ((rd_T45 x274004 x5).f0) ((rd_T45 x274004 x5).f1) ((rd_T45 x274004 x5).f2) ((rd_T45 x274004 x5).f3))))) else (none)) else ((platenref20_Sum.f k x4).bind fun t283 => ((platenref20_Number.f k x4 t283).bind fun t284 => (some (t284, 0))))
def platenref20_Put.l1 : Nat → List Int → Int → Int → Int → Int → Int → Int → List (S45) → Int → Int → Bool → List (S48) → Option (List Int × Int)
  | 0, _, _, _, _, _, _, _, _, _, _, _, _ => none
  | k + 1, x4, x5, x7, x274000, x274001, x274002, x274003, x274004, x289000, x289001, x289002, x289003 => if x7 < (x289003.length : Int) then (if 0 ≤ x7 then ((platenref20_row.f k x4 ((rd_T48 x289003 x7).f0) ((rd_T48 x289003 x7).f1) ((rd_T48 x289003 x7).f2) ((rd_T48 x289003 x7).f3)).bind fun t305 => (platenref20_Put.l1 k t305 x5 (wrap64 (x7 + 1)) x274000 x274001 x274002 x274003 x274004 x289000 x289001 x289002 x289003)) else (none)) else (platenref20_Put.l0 k x4 (wrap64 (x5 + 1)) x274000 x274001 x274002 x274003 x274004)
end
def platenref20_Put.f (k : Nat) (a0_0 : Int) (a0_1 : Int) (a0_2 : Int) (a0_3 : Int) (l0_4 : List (S45)) : Option (List Int × Int) := if a0_2 < 0 then (platenref20_Put.j0 k true a0_0 a0_1 a0_2 a0_3 l0_4) else (if a0_3 < 0 then (platenref20_Put.j0 k true a0_0 a0_1 a0_2 a0_3 l0_4) else (if a0_0 = 0 then (platenref20_Put.j0 k false a0_0 a0_1 a0_2 a0_3 l0_4) else (platenref20_Put.j0 k (decide ((l0_4.length : Int) > 0)) a0_0 a0_1 a0_2 a0_3 l0_4)))
theorem platenref20_Put.mono_l : ∀ k, (∀ y0 y1 y2 y3 y4 y5, LeO (platenref20_Put.j0 k y0 y1 y2 y3 y4 y5) (platenref20_Put.j0 (k + 1) y0 y1 y2 y3 y4 y5)) ∧ (∀ y0 y1 y2 y3 y4 y5 y6, LeO (platenref20_Put.l0 k y0 y1 y2 y3 y4 y5 y6) (platenref20_Put.l0 (k + 1) y0 y1 y2 y3 y4 y5 y6)) ∧ (∀ y0 y1 y2 y3 y4 y5 y6 y7 y8 y9 y10 y11, LeO (platenref20_Put.l1 k y0 y1 y2 y3 y4 y5 y6 y7 y8 y9 y10 y11) (platenref20_Put.l1 (k + 1) y0 y1 y2 y3 y4 y5 y6 y7 y8 y9 y10 y11))
  | 0 => ⟨fun _ _ _ _ _ _ r h => by simp [platenref20_Put.j0] at h, fun _ _ _ _ _ _ _ r h => by simp [platenref20_Put.l0] at h, fun _ _ _ _ _ _ _ _ _ _ _ _ r h => by simp [platenref20_Put.l1] at h⟩
  | k + 1 => by
    obtain ⟨ih0, ih1, ih2⟩ := platenref20_Put.mono_l k
    refine ⟨?_, ?_, ?_⟩
    · intro y0 y1 y2 y3 y4 y5
      unfold platenref20_Put.j0
      repeat' first
      | (with_reducible exact ih0 _ _ _ _ _ _)
      | (with_reducible exact ih1 _ _ _ _ _ _ _)
      | (with_reducible exact ih2 _ _ _ _ _ _ _ _ _ _ _ _)
      | (with_reducible exact platenref20_Number.mono _ _ _)
      | (with_reducible exact platenref20_Sum.mono _ _)
      | (with_reducible exact platenref20_numbers.mono _ _ _)
      | (with_reducible exact platenref20_row.mono _ _ _ _ _ _)
      | (with_reducible exact LeO.refl _)
      | (with_reducible exact LeO.none _)
      | (with_reducible refine LeO.ite ?_ ?_)
      | (with_reducible refine LeO.bind ?_ (fun _ => ?_))
      | exact ih0 _ _ _ _ _ _
      | exact ih1 _ _ _ _ _ _ _
      | exact ih2 _ _ _ _ _ _ _ _ _ _ _ _
      | exact platenref20_Number.mono _ _ _
      | exact platenref20_Sum.mono _ _
      | exact platenref20_numbers.mono _ _ _
      | exact platenref20_row.mono _ _ _ _ _ _
      | exact LeO.none _
      | refine LeO.ite ?_ ?_
      | refine LeO.bind ?_ (fun _ => ?_)
    · intro y0 y1 y2 y3 y4 y5 y6
      unfold platenref20_Put.l0
      repeat' first
      | (with_reducible exact ih0 _ _ _ _ _ _)
      | (with_reducible exact ih1 _ _ _ _ _ _ _)
      | (with_reducible exact ih2 _ _ _ _ _ _ _ _ _ _ _ _)
      | (with_reducible exact platenref20_Number.mono _ _ _)
      | (with_reducible exact platenref20_Sum.mono _ _)
      | (with_reducible exact platenref20_numbers.mono _ _ _)
      | (with_reducible exact platenref20_row.mono _ _ _ _ _ _)
      | (with_reducible exact LeO.refl _)
      | (with_reducible exact LeO.none _)
      | (with_reducible refine LeO.ite ?_ ?_)
      | (with_reducible refine LeO.bind ?_ (fun _ => ?_))
      | exact ih0 _ _ _ _ _ _
      | exact ih1 _ _ _ _ _ _ _
      | exact ih2 _ _ _ _ _ _ _ _ _ _ _ _
      | exact platenref20_Number.mono _ _ _
      | exact platenref20_Sum.mono _ _
      | exact platenref20_numbers.mono _ _ _
      | exact platenref20_row.mono _ _ _ _ _ _
      | exact LeO.none _
      | refine LeO.ite ?_ ?_
      | refine LeO.bind ?_ (fun _ => ?_)
    · intro y0 y1 y2 y3 y4 y5 y6 y7 y8 y9 y10 y11
      unfold platenref20_Put.l1
      repeat' first
      | (with_reducible exact ih0 _ _ _ _ _ _)
      | (with_reducible exact ih1 _ _ _ _ _ _ _)
      | (with_reducible exact ih2 _ _ _ _ _ _ _ _ _ _ _ _)
      | (with_reducible exact platenref20_Number.mono _ _ _)
      | (with_reducible exact platenref20_Sum.mono _ _)
      | (with_reducible exact platenref20_numbers.mono _ _ _)
      | (with_reducible exact platenref20_row.mono _ _ _ _ _ _)
      | (with_reducible exact LeO.refl _)
      | (with_reducible exact LeO.none _)
      | (with_reducible refine LeO.ite ?_ ?_)
      | (with_reducible refine LeO.bind ?_ (fun _ => ?_))
      | exact ih0 _ _ _ _ _ _
      | exact ih1 _ _ _ _ _ _ _
      | exact ih2 _ _ _ _ _ _ _ _ _ _ _ _
      | exact platenref20_Number.mono _ _ _
      | exact platenref20_Sum.mono _ _
      | exact platenref20_numbers.mono _ _ _
      | exact platenref20_row.mono _ _ _ _ _ _
      | exact LeO.none _
      | refine LeO.ite ?_ ?_
      | refine LeO.bind ?_ (fun _ => ?_)
theorem platenref20_Put.mono : ∀ a0 a1 a2 a3 a4 k, LeO (platenref20_Put.f k a0 a1 a2 a3 a4) (platenref20_Put.f (k + 1) a0 a1 a2 a3 a4) := by
  intro a0 a1 a2 a3 a4 k
  obtain ⟨ih0, ih1, ih2⟩ := platenref20_Put.mono_l k
  unfold platenref20_Put.f
  repeat' first
      | (with_reducible exact ih0 _ _ _ _ _ _)
      | (with_reducible exact ih1 _ _ _ _ _ _ _)
      | (with_reducible exact ih2 _ _ _ _ _ _ _ _ _ _ _ _)
      | (with_reducible exact platenref20_Number.mono _ _ _)
      | (with_reducible exact platenref20_Sum.mono _ _)
      | (with_reducible exact platenref20_numbers.mono _ _ _)
      | (with_reducible exact platenref20_row.mono _ _ _ _ _ _)
      | (with_reducible exact LeO.refl _)
      | (with_reducible exact LeO.none _)
      | (with_reducible refine LeO.ite ?_ ?_)
      | (with_reducible refine LeO.bind ?_ (fun _ => ?_))
      | exact ih0 _ _ _ _ _ _
      | exact ih1 _ _ _ _ _ _ _
      | exact ih2 _ _ _ _ _ _ _ _ _ _ _ _
      | exact platenref20_Number.mono _ _ _
      | exact platenref20_Sum.mono _ _
      | exact platenref20_numbers.mono _ _ _
      | exact platenref20_row.mono _ _ _ _ _ _
      | exact LeO.none _
      | refine LeO.ite ?_ ?_
      | refine LeO.bind ?_ (fun _ => ?_)
end Go.Proofs.Ytihiapjfdgoomaa.P
namespace Go.Proofs.Ytihiapjfdgoomaa.A
open Go.RowKit Go.Proofs.YtihiapjfdgoomaaW.PrintWords Go.Proofs.YtihiapjfdgoomaaW.PrintLast Go.Proofs.YtihiapjfdgoomaaW.PrintMore
open Go.Proofs.Ytihiapjfdgoomaa.P
set_option linter.unusedVariables false
set_option linter.unusedSimpArgs false
theorem sh7 (n : Int) : shr .u64 n (wrap64 (8 * 7)) = n / 72057594037927936 := by unfold shr; congr 1; kernel_rfl
theorem sh6 (n : Int) : shr .u64 n (wrap64 (8 * 6)) = n / 281474976710656 := by unfold shr; congr 1; kernel_rfl
theorem sh5 (n : Int) : shr .u64 n (wrap64 (8 * 5)) = n / 1099511627776 := by unfold shr; congr 1; kernel_rfl
theorem sh4 (n : Int) : shr .u64 n (wrap64 (8 * 4)) = n / 4294967296 := by unfold shr; congr 1; kernel_rfl
theorem sh3 (n : Int) : shr .u64 n (wrap64 (8 * 3)) = n / 16777216 := by unfold shr; congr 1; kernel_rfl
theorem sh2 (n : Int) : shr .u64 n (wrap64 (8 * 2)) = n / 65536 := by unfold shr; congr 1; kernel_rfl
theorem sh1 (n : Int) : shr .u64 n (wrap64 (8 * 1)) = n / 256 := by unfold shr; congr 1; kernel_rfl
theorem sh0 (n : Int) : shr .u64 n (wrap64 (8 * 0)) = n := by
  unfold shr
  have : (2 : Int) ^ min (wrap64 (8 * 0)).toNat IntKind.u64.bits = 1 := by kernel_rfl
  rw [this, Int.ediv_one]
theorem nstep (k : Nat) (b : List Int) (n : Int) (x y : Int) (h0 : x ≥ 0) (h1 : 0 ≤ wrap64 (8 * x)) (hy : wrap64 (x - 1) = y) (hl : b.length < 140737488355328) :
    platenref20_Number.l0 (k + 1) b n x = platenref20_Number.l0 k (b ++ [(shr .u64 n (wrap64 (8 * x))) % 256]) n y := by
  rw [platenref20_Number.l0, if_pos h0, if_pos h1, if_pos hl, hy]
theorem number_tells (b : List Int) (m : Int) (hl : b.length + 8 ≤ 140737488355328) : Ev (fun k => platenref20_Number.f k b (IntKind.u64.wrap m)) (b ++ be8 m) := by
  refine Ev.of (fun k => platenref20_Number.mono _ _ k) (k := 9) ?_
  unfold platenref20_Number.f
  rw [nstep 8 b _ 7 6 (by decide) (by unfold wrap64; omega) (by unfold wrap64; omega) (by omega)]
  rw [nstep 7 _ _ 6 5 (by decide) (by unfold wrap64; omega) (by unfold wrap64; omega) (by simp; omega)]
  rw [nstep 6 _ _ 5 4 (by decide) (by unfold wrap64; omega) (by unfold wrap64; omega) (by simp; omega)]
  rw [nstep 5 _ _ 4 3 (by decide) (by unfold wrap64; omega) (by unfold wrap64; omega) (by simp; omega)]
  rw [nstep 4 _ _ 3 2 (by decide) (by unfold wrap64; omega) (by unfold wrap64; omega) (by simp; omega)]
  rw [nstep 3 _ _ 2 1 (by decide) (by unfold wrap64; omega) (by unfold wrap64; omega) (by simp; omega)]
  rw [nstep 2 _ _ 1 0 (by decide) (by unfold wrap64; omega) (by unfold wrap64; omega) (by simp; omega)]
  rw [nstep 1 _ _ 0 (-1) (by decide) (by unfold wrap64; omega) (by unfold wrap64; omega) (by simp; omega)]
  rw [platenref20_Number.l0, if_neg (by decide), sh7, sh6, sh5, sh4, sh3, sh2, sh1, sh0]
  simp [be8]
def nsB (l : List Int) : List Int := l.flatMap be8
theorem nsB_length (l : List Int) : (nsB l).length = 8 * l.length := by
  induction l with
  | nil => rfl
  | cons x l ih => simp only [nsB, List.flatMap_cons, List.length_append, be8_length, List.length_cons] at ih ⊢; omega
theorem numbers_tells (b l : List Int) (hl : b.length + 8 * l.length ≤ 140737488355328) : Ev (fun k => platenref20_numbers.f k b l) (b ++ nsB l) := by
  have h : ∀ (d i : Nat) (b : List Int), i + d = l.length → b.length + 8 * d ≤ 140737488355328 → Ev (fun k => platenref20_numbers.l0 k b l (i : Int)) (b ++ nsB (l.drop i)) := by
    intro d
    induction d with
    | zero =>
      intro i b hi hb
      refine Ev.of (fun k => platenref20_numbers.mono_l k _ _ _) (k := 1) ?_
      rw [platenref20_numbers.l0, if_neg (by omega), List.drop_eq_nil_of_le (by omega)]
      simp [nsB]
    | succ d ih =>
      intro i b hi hb
      have hw : wrap64 ((i : Int) + 1) = ((i + 1 : Nat) : Int) := by unfold wrap64; omega
      obtain ⟨K1, h1⟩ := number_tells b (rd l (i : Int)) (by omega)
      dsimp only at h1
      obtain ⟨K2, h2⟩ := ih (i + 1) (b ++ be8 (rd l (i : Int))) (by omega) (by rw [List.length_append, be8_length]; omega)
      dsimp only at h2
      refine Ev.of (fun k => platenref20_numbers.mono_l k _ _ _) (k := max K1 K2 + 1) ?_
      rw [platenref20_numbers.l0, if_pos (by omega), if_pos (by omega), h1 _ (Nat.le_max_left _ _)]
      simp only [Option.bind_some]
      rw [hw, h2 _ (Nat.le_max_right _ _)]
      have hlt : i < l.length := by omega
      have e : l.drop i = rd l (i : Int) :: l.drop (i + 1) := by
        rw [List.drop_eq_getElem_cons hlt]
        simp [rd, List.getD_eq_getElem?_getD, List.getElem?_eq_getElem hlt]
      rw [e]
      simp [nsB]
  have := h l.length 0 b (Nat.zero_add _) hl
  rw [List.drop_zero] at this
  exact this
theorem truth_tells (b : List Int) (t : Bool) (hl : b.length + 1 ≤ 140737488355328) : platenref20_truth.f b t = some (b ++ trB t) := by
  unfold platenref20_truth.f
  cases t with
  | true => rw [if_pos rfl, if_pos (by omega)]; rfl
  | false => rw [if_neg (by simp), if_pos (by omega)]; rfl
theorem text_tells (b : List Int) (s : ByteArray) (hl : b.length + 8 + s.size < 140737488355328) : Ev (fun k => platenref20_Text.f k b s) (b ++ txB s) := by
  unfold platenref20_Text.f txB
  rw [← List.append_assoc]
  refine Ev.bind (number_tells b s.size (by omega)) ?_
  rw [if_pos (by rw [List.length_append, be8_length]; omega)]
  exact Ev.now _
theorem box_tells (b : List Int) (x : S50) (hl : b.length + 80 + x.f2.size < 140737488355328) : Ev (fun k => platenref20_box.f k b x.f0 x.f1 x.f2 x.f3 x.f4 x.f5 x.f6 x.f7 x.f8 x.f9) (b ++ bxB x) := by
  have e : b ++ bxB x = (b ++ nsB [x.f0, x.f1]) ++ txB x.f2 ++ nsB [x.f3, x.f4, x.f5, x.f6, x.f7, x.f8, x.f9] := by
    have h := bxB_eq x []
    rw [List.append_nil] at h
    rw [h]
    simp [nsB]
  have ht : (txB x.f2).length = 8 + x.f2.size := by unfold txB; rw [List.length_append, be8_length, bytesOf_len]
  rw [e]
  unfold platenref20_box.f
  refine Ev.bind (numbers_tells b _ (by simp; omega)) (Ev.bind (text_tells _ _ (by rw [List.length_append, nsB_length]; simp; omega)) (Ev.bind (numbers_tells _ _ (by rw [List.length_append, List.length_append, nsB_length, ht]; simp; omega)) (Ev.now _)))
theorem row_tells (b : List Int) (r : S48) (hl : b.length + (rwB r).length < 140737488355328) : Ev (fun k => platenref20_row.f k b r.f0 r.f1 r.f2 r.f3) (b ++ rwB r) := by
  rw [rwB_length] at hl
  have hn : r.f3.length * 80 ≤ (bxsB r.f3).length := flat_le bxB 80 (fun x => by rw [bxB_length]; omega) r.f3
  have h : ∀ (d i : Nat) (b : List Int), i + d = r.f3.length → b.length + (bxsB (r.f3.drop i)).length < 140737488355328 → Ev (fun k => platenref20_row.l0 k b (i : Int) r.f0 r.f1 r.f2 r.f3) (b ++ bxsB (r.f3.drop i)) := by
    intro d
    induction d with
    | zero =>
      intro i b hi hb
      refine Ev.of (fun k => platenref20_row.mono_l k _ _ _ _ _ _) (k := 1) ?_
      rw [platenref20_row.l0, if_neg (by omega), List.drop_eq_nil_of_le (by omega)]
      simp [bxsB]
    | succ d ih =>
      intro i b hi hb
      have hw : wrap64 ((i : Int) + 1) = ((i + 1 : Nat) : Int) := by unfold wrap64; omega
      have hlt : i < r.f3.length := by omega
      have e : r.f3.drop i = rd_T50 r.f3 (i : Int) :: r.f3.drop (i + 1) := by
        rw [List.drop_eq_getElem_cons hlt]
        simp [rd_T50, List.getD_eq_getElem?_getD, List.getElem?_eq_getElem hlt]
      have e2 : bxsB (r.f3.drop i) = bxB (rd_T50 r.f3 (i : Int)) ++ bxsB (r.f3.drop (i + 1)) := by rw [e]; simp [bxsB]
      have e3 := bxB_length (rd_T50 r.f3 (i : Int))
      rw [e2, List.length_append] at hb
      obtain ⟨K1, h1⟩ := box_tells b (rd_T50 r.f3 (i : Int)) (by omega)
      dsimp only at h1
      obtain ⟨K2, h2⟩ := ih (i + 1) (b ++ bxB (rd_T50 r.f3 (i : Int))) (by omega) (by rw [List.length_append]; omega)
      dsimp only at h2
      refine Ev.of (fun k => platenref20_row.mono_l k _ _ _ _ _ _) (k := max K1 K2 + 1) ?_
      rw [platenref20_row.l0, if_pos (by omega), if_pos (by omega), h1 _ (Nat.le_max_left _ _)]
      simp only [Option.bind_some]
      rw [hw, h2 _ (Nat.le_max_right _ _), e2, List.append_assoc]
  have e : b ++ rwB r = (((b ++ nsB [r.f0]) ++ trB r.f1) ++ trB r.f2) ++ nsB [(r.f3.length : Int)] ++ bxsB r.f3 := by simp [rwB, nsB]
  rw [e]
  unfold platenref20_row.f
  refine Ev.bind (numbers_tells b _ (by simp; omega)) ?_
  rw [truth_tells _ _ (by rw [List.length_append, nsB_length]; simp; omega)]
  simp only [Option.bind_some]
  rw [truth_tells _ _ (by simp only [List.length_append, nsB_length, trB_length]; simp; omega)]
  simp only [Option.bind_some]
  refine Ev.bind (numbers_tells _ _ (by simp only [List.length_append, nsB_length, trB_length]; simp; omega)) ?_
  have := h r.f3.length 0 ((((b ++ nsB [r.f0]) ++ trB r.f1) ++ trB r.f2) ++ nsB [(r.f3.length : Int)]) (Nat.zero_add _) (by rw [List.drop_zero]; simp only [List.length_append, nsB_length, trB_length]; simp; omega)
  rw [List.drop_zero] at this
  exact this
theorem refsum_tells (b : List Int) (hl : b.length ≤ 9223372036854775807) : Ev (fun k => platenref20_Sum.f k b) (fnvs b) := by
  have h : ∀ (d i : Nat) (s : Int), i + d = b.length → platenref20_Sum.l0 (d + 1) b s (i : Int) = some ((b.drop i).foldl fnv s) := by
    intro d
    induction d with
    | zero =>
      intro i s hi
      rw [platenref20_Sum.l0, if_neg (by omega), List.drop_eq_nil_of_le (by omega)]
      rfl
    | succ d ih =>
      intro i s hi
      have hw : wrap64 ((i : Int) + 1) = ((i + 1 : Nat) : Int) := by unfold wrap64; omega
      have hlt : i < b.length := by omega
      rw [platenref20_Sum.l0, if_pos (by omega), if_pos (by omega), hw, ih (i + 1) _ (by omega)]
      rw [List.drop_eq_getElem_cons hlt, List.foldl_cons]
      have e : rd b (i : Int) = b[i] := by simp [rd, List.getD_eq_getElem?_getD, List.getElem?_eq_getElem hlt]
      rw [e]
      rfl
  exact Ev.of (fun k => platenref20_Sum.mono _ k) (k := b.length + 1) (by unfold platenref20_Sum.f; exact h b.length 0 _ (Nat.zero_add _))
def wsum (b : List Int) : List Int := b ++ be8 (fnvs b)
theorem be8_wrap (n : Int) : be8 (wrap64 n) = be8 n := by
  have e : IntKind.u64.wrap (wrap64 n) = IntKind.u64.wrap n := by rw [wrapU, wrapU]; unfold wrap64; omega
  unfold be8
  rw [e]
theorem putB_wsum (a0 a1 a2 a3 : Int) (l : List S45) : putB a0 a1 a2 a3 l = wsum (bodyB a0 a1 a2 a3 l) := by unfold putB wsum; rw [be8_wrap]
section
variable (a0 a1 a2 a3 : Int) (l : List S45)
theorem ref_l1 (i : Nat) (p : S45) (rest : List Int) (hrl : p.f3.length ≤ 9223372036854775807)
    (H : ∀ b : List Int, b.length + rest.length + 8 < 140737488355328 → Ev (fun k => platenref20_Put.l0 k b (wrap64 ((i : Int) + 1)) a0 a1 a2 a3 l) (wsum (b ++ rest), 0)) :
    ∀ (d j : Nat) (b : List Int), j + d = p.f3.length → b.length + (rwsB (p.f3.drop j)).length + rest.length + 8 < 140737488355328 →
      Ev (fun k => platenref20_Put.l1 k b (i : Int) (j : Int) a0 a1 a2 a3 l p.f0 p.f1 p.f2 p.f3) (wsum (b ++ (rwsB (p.f3.drop j) ++ rest)), 0) := by
  intro d
  induction d with
  | zero =>
    intro j b hj hb
    obtain ⟨K, h⟩ := H b (by omega)
    dsimp only at h
    refine Ev.of (fun k => (platenref20_Put.mono_l k).2.2 _ _ _ _ _ _ _ _ _ _ _ _) (k := K + 1) ?_
    rw [platenref20_Put.l1, if_neg (by omega), List.drop_eq_nil_of_le (by omega), h _ (Nat.le_refl _)]
    simp [rwsB]
  | succ d ih =>
    intro j b hj hb
    have hw : wrap64 ((j : Int) + 1) = ((j + 1 : Nat) : Int) := by unfold wrap64; omega
    have hlt : j < p.f3.length := by omega
    have e : p.f3.drop j = rd_T48 p.f3 (j : Int) :: p.f3.drop (j + 1) := by
      rw [List.drop_eq_getElem_cons hlt]
      simp [rd_T48, List.getD_eq_getElem?_getD, List.getElem?_eq_getElem hlt]
    have e2 : rwsB (p.f3.drop j) = rwB (rd_T48 p.f3 (j : Int)) ++ rwsB (p.f3.drop (j + 1)) := by rw [e]; simp [rwsB]
    rw [e2, List.length_append] at hb
    obtain ⟨K1, h1⟩ := row_tells b (rd_T48 p.f3 (j : Int)) (by omega)
    dsimp only at h1
    obtain ⟨K2, h2⟩ := ih (j + 1) (b ++ rwB (rd_T48 p.f3 (j : Int))) (by omega) (by rw [List.length_append]; omega)
    dsimp only at h2
    refine Ev.of (fun k => (platenref20_Put.mono_l k).2.2 _ _ _ _ _ _ _ _ _ _ _ _) (k := max K1 K2 + 1) ?_
    rw [platenref20_Put.l1, if_pos (by omega), if_pos (by omega), h1 _ (Nat.le_max_left _ _)]
    simp only [Option.bind_some]
    rw [hw, h2 _ (Nat.le_max_right _ _), e2]
    simp only [List.append_assoc]
theorem ref_l0 (hl : l.length ≤ 9223372036854775807) (hp : ∀ p ∈ l, okP p) : ∀ (d i : Nat) (b : List Int), i + d = l.length → b.length + (pgsB (l.drop i)).length + 8 < 140737488355328 →
    Ev (fun k => platenref20_Put.l0 k b (i : Int) a0 a1 a2 a3 l) (wsum (b ++ pgsB (l.drop i)), 0) := by
  intro d
  induction d with
  | zero =>
    intro i b hi hb
    obtain ⟨K1, h1⟩ := refsum_tells b (by omega)
    dsimp only at h1
    obtain ⟨K2, h2⟩ := number_tells b (fnvs b) (by omega)
    dsimp only at h2
    rw [wraps_u64 (fnvs b) (fnvs_in b _ fnv0).1 (by have := (fnvs_in b _ fnv0).2; unfold fnvs; omega)] at h2
    refine Ev.of (fun k => (platenref20_Put.mono_l k).2.1 _ _ _ _ _ _ _) (k := max K1 K2 + 1) ?_
    rw [platenref20_Put.l0, if_neg (by omega), List.drop_eq_nil_of_le (by omega), h1 _ (Nat.le_max_left _ _)]
    simp only [Option.bind_some]
    rw [h2 _ (Nat.le_max_right _ _)]
    simp [pgsB, wsum]
  | succ d ih =>
    intro i b hi hb
    have hw : wrap64 ((i : Int) + 1) = ((i + 1 : Nat) : Int) := by unfold wrap64; omega
    have hlt : i < l.length := by omega
    have e : l.drop i = rd_T45 l (i : Int) :: l.drop (i + 1) := by
      rw [List.drop_eq_getElem_cons hlt]
      simp [rd_T45, List.getD_eq_getElem?_getD, List.getElem?_eq_getElem hlt]
    have e2 : pgsB (l.drop i) = pgB (rd_T45 l (i : Int)) ++ pgsB (l.drop (i + 1)) := by rw [e]; simp [pgsB]
    have hok := ok45 hp (i : Int)
    rw [e2, List.length_append, pgB_length] at hb
    have hlen := hok.2.2.1
    obtain ⟨K1, h1⟩ := numbers_tells b [(rd_T45 l (i : Int)).f0, (rd_T45 l (i : Int)).f1] (by simp; omega)
    dsimp only at h1
    have h2 := truth_tells (b ++ nsB [(rd_T45 l (i : Int)).f0, (rd_T45 l (i : Int)).f1]) (rd_T45 l (i : Int)).f2 (by rw [List.length_append, nsB_length]; simp; omega)
    obtain ⟨K3, h3⟩ := numbers_tells ((b ++ nsB [(rd_T45 l (i : Int)).f0, (rd_T45 l (i : Int)).f1]) ++ trB (rd_T45 l (i : Int)).f2) [((rd_T45 l (i : Int)).f3.length : Int)] (by simp only [List.length_append, nsB_length, trB_length]; simp; omega)
    dsimp only at h3
    obtain ⟨K4, h4⟩ := ref_l1 a0 a1 a2 a3 l i (rd_T45 l (i : Int)) (pgsB (l.drop (i + 1))) (by omega) (fun b' hb' => by rw [hw]; exact ih (i + 1) b' (by omega) hb') (rd_T45 l (i : Int)).f3.length 0
      (((b ++ nsB [(rd_T45 l (i : Int)).f0, (rd_T45 l (i : Int)).f1]) ++ trB (rd_T45 l (i : Int)).f2) ++ nsB [((rd_T45 l (i : Int)).f3.length : Int)]) (Nat.zero_add _) (by rw [List.drop_zero]; simp only [List.length_append, nsB_length, trB_length]; simp; omega)
    dsimp only at h4
    rw [List.drop_zero] at h4
    refine Ev.of (fun k => (platenref20_Put.mono_l k).2.1 _ _ _ _ _ _ _) (k := K1 + K3 + K4 + 1) ?_
    rw [platenref20_Put.l0, if_pos (by omega), if_pos (by omega), h1 _ (by omega)]
    simp only [Option.bind_some]
    rw [h2]
    simp only [Option.bind_some]
    rw [h3 _ (by omega)]
    simp only [Option.bind_some]
    have h5 := h4 (K1 + K3 + K4) (by omega)
    have e3 : b ++ pgsB (l.drop i) = (((b ++ nsB [(rd_T45 l (i : Int)).f0, (rd_T45 l (i : Int)).f1]) ++ trB (rd_T45 l (i : Int)).f2) ++ nsB [((rd_T45 l (i : Int)).f3.length : Int)]) ++ (rwsB (rd_T45 l (i : Int)).f3 ++ pgsB (l.drop (i + 1))) := by
      rw [e2]
      simp [pgB, nsB]
    rw [e3]
    exact h5
end
theorem refput_tells (a0 a1 a2 a3 : Int) (l : List S45) (h : okA a0 a1 a2 a3 l) (hl : (bodyB a0 a1 a2 a3 l).length + 8 < 140737488355328) :
    Ev (fun k => platenref20_Put.f k a0 a1 a2 a3 l) (if a2 < 0 ∨ a3 < 0 ∨ a0 ≠ 0 ∧ 0 < l.length then ([], 200) else (putB a0 a1 a2 a3 l, 0)) := by
  have hbad : Ev (fun k => platenref20_Put.j0 k true a0 a1 a2 a3 l) ([], 200) := Ev.of (fun k => (platenref20_Put.mono_l k).1 _ _ _ _ _ _) (k := 1) (by rw [platenref20_Put.j0]; rfl)
  have hbl := bodyB_length a0 a1 a2 a3 l
  have hgood : Ev (fun k => platenref20_Put.j0 k false a0 a1 a2 a3 l) (putB a0 a1 a2 a3 l, 0) := by
    obtain ⟨K1, h1⟩ := numbers_tells markB [a0, a1, a2, a3, (l.length : Int)] (by simp [markB])
    dsimp only at h1
    obtain ⟨K2, h2⟩ := ref_l0 a0 a1 a2 a3 l (by have := h.2.2.2.2.1; omega) h.2.2.2.2.2 l.length 0 (markB ++ nsB [a0, a1, a2, a3, (l.length : Int)]) (Nat.zero_add _) (by rw [List.drop_zero, List.length_append, nsB_length]; simp [markB]; omega)
    dsimp only at h2
    refine Ev.of (fun k => (platenref20_Put.mono_l k).1 _ _ _ _ _ _) (k := K1 + K2 + 1) ?_
    rw [platenref20_Put.j0, if_neg (by simp)]
    have e1 := h1 (K1 + K2) (by omega)
    have e2 := h2 (K1 + K2) (by omega)
    rw [List.drop_zero] at e2
    have e3 : markB ++ nsB [a0, a1, a2, a3, (l.length : Int)] ++ pgsB l = bodyB a0 a1 a2 a3 l := by simp [bodyB, headB, nsB]
    rw [e3] at e2
    simp only [markB] at e1 e2
    rw [e1]
    simp only [Option.bind_some]
    rw [putB_wsum]
    exact e2
  obtain ⟨Kb, hb⟩ := hbad
  dsimp only at hb
  obtain ⟨Kg, hg⟩ := hgood
  dsimp only at hg
  refine ⟨Kb + Kg, fun k hk => ?_⟩
  show platenref20_Put.f k a0 a1 a2 a3 l = _
  unfold platenref20_Put.f
  by_cases h2 : a2 < 0
  · rw [if_pos h2, if_pos (.inl h2)]; exact hb _ (by omega)
  · rw [if_neg h2]
    by_cases h3 : a3 < 0
    · rw [if_pos h3, if_pos (.inr (.inl h3))]; exact hb _ (by omega)
    · rw [if_neg h3]
      by_cases h0 : a0 = 0
      · rw [if_pos h0, if_neg (by omega)]; exact hg _ (by omega)
      · rw [if_neg h0]
        by_cases h4 : (l.length : Int) > 0
        · rw [if_pos (by omega), show decide ((l.length : Int) > 0) = true from by simpa using h4]; exact hb _ (by omega)
        · rw [if_neg (by omega), show decide ((l.length : Int) > 0) = false from by simpa using h4]; exact hg _ (by omega)
abbrev markS : ByteArray := ⟨#[112, 108, 97, 116, 101, 110, 65, 49]⟩
def rsumOk (b : List Int) : Bool := qn b (b.length - 8, false) == fnvs (b.take (b.length - 8))
theorem marked_early (A : Option Addr) (c : Nat) (b : List Int) (w : World) (hT : Byt w A c b) (hl : b.length ≤ 1099511627776) (h : b.length < 16 ∨ markOk b = false) :
    Calls Try.prog 33 #[.slice A b.length c, .string markS] w fun e w' => e = .returned (.tuple #[.slice none 0 0, .bool false]) ∧ Below w.heap.size w w' := by
  have HT := Aside0.mk hT
  by_cases h1 : b.length < 16
  · have h2 : decide ((b.length : Int) - 8 < 8) = true := by simp; omega
    clear h hT h1
    go_enter Try.func33, Try.ntmps33
    go_wp2
    go_ret2
    exact ⟨rfl, Below.refl _ _⟩
  · have hm : markOk b = false := h.resolve_left h1
    have h2 : decide ((b.length : Int) - 8 < 8) = false := by simp; omega
    have h3 : 8 ≤ b.length := by omega
    have h4 : 8 ≤ c := by have := hT.2; omega
    have hcv : (convert 32 9 (.slice A 8 c)).run Try.prog w = .ok (.string (strOfNums (b.take 8))) w := by
      have h := (Kd.C_take hT.1 h3)
      have hl8 : (b.take 8).length = 8 := by simp; omega
      rw [hl8] at h
      exact Kd.C_string Try.underlying32 Try.underlying5 Try.underlying9 h
    have h5 : ((strOfNums (b.take 8)).toList == [112, 108, 97, 116, 101, 110, 65, 49]) = false := hm
    clear h hT h1 hm
    go_enter Try.func33, Try.ntmps33
    go_wp2
    go_ret2
    exact ⟨rfl, Below.refl _ _⟩
def MarkedPost (A : Option Addr) (c e : Nat) (w : World) (ok : Bool) (e' : Ending) (w' : World) : Prop :=
  e' = .returned (.tuple (if ok = true then #[.slice (A.map (fun x => x.add 8)) (e - 8) (c - 8), .bool true] else #[.slice none 0 0, .bool false])) ∧ Below w.heap.size w w'
set_option maxHeartbeats 1000000 in
theorem marked_late (A : Option Addr) (c : Nat) (b : List Int) (w : World) (hT : Byt w A c b) (e : Nat) (hn : b.length = e + 8) (he : 8 ≤ e) (hl : e ≤ 1099511627776) (hm : markOk b = true) :
    Calls Try.prog 33 #[.slice A (e + 8) c, .string markS] w (MarkedPost A c e w (rsumOk b)) := by
  have h2 : decide ((e : Int) < 8) = false := by simp; omega
  have h4 : e + 8 ≤ c := by have := hT.2; omega
  have hcv : (convert 32 9 (.slice A 8 c)).run Try.prog w = .ok (.string (strOfNums (b.take 8))) w := by
    have h := (Kd.C_take (m := 8) hT.1 (by omega))
    have hl8 : (b.take 8).length = 8 := by simp; omega
    rw [hl8] at h
    exact Kd.C_string Try.underlying32 Try.underlying5 Try.underlying9 h
  have h5 : ((strOfNums (b.take 8)).toList == [112, 108, 97, 116, 101, 110, 65, 49]) = true := hm
  have HT := Aside0.mk hT
  have HN := Aside0.mk hn
  have HTk := Aside0.mk (byt_take (n := e) hT (by omega))
  have hlt : (b.take e).length = e := by simp; omega
  have hsum := fun W (hW : Below w.heap.size w W) => (refsum_tells (b.take e) (by rw [hlt]; omega)).rounds
  have hnum := Aside0.mk (ref_num b (e, false) (by omega) (by simp only; omega) 9 (Nat.le_refl _))
  have hI := Aside0.mk (IsS78.new w w A c b (e : Int) false (Below.refl _ _) ⟨hT.1, hT.2⟩)
  have hIs : (qs b (e, false)).1 = e + 8 := by unfold qs; rw [if_pos (by simp only; omega)]
  have hRS : rsumOk b = (qn b (e, false) == fnvs (b.take e)) := by unfold rsumOk; rw [show b.length - 8 = e by omega]
  have HRS := Aside0.mk hRS
  have HTL := Aside0.mk hlt
  rw [hn] at hI
  clear hT hm hn hsum hlt hRS hIs
  go_enter Try.func33, Try.ntmps33
  go_wp2_with fail
  have h41 : e ≤ c := by omega
  have h42 : ¬ c = 8 := by omega
  obtain ⟨ks, hks⟩ := (refsum_tells (b.take e) (by rw [HTL.out]; omega)).rounds
  have HS := Aside0.mk hks
  have hId := Aside0.mk hI.out.drew
  have hBd := Aside0.mk (below_drew (below_alloc (Below.refl w.heap.size w) (.cells #[.slice A (e + 8) c, .int .i64 (e : Int), .bool false] 78)))
  clear hks
  cases hro : rsumOk b with
  | true =>
    have hq : (qn b (e, false) == fnvs (b.take e)) = true := by rw [← HRS.out]; exact hro
    have hq' : (qn b (e, false) != fnvs (b.take e)) = false := by simpa using hq
    have HRO := Aside0.mk hro
    clear hro
    go_region_law (first
      | (refine goes_ (N := some 25) Try.func43 (by kernel_rfl) rfl #[.pointer (some ⟨w.heap.size, 0, none⟩)] (by rfl) rfl rfl (by simp only [List.map_toArray, List.map_cons, List.map_nil]; rfl) ?_; refine (platenref20_Reader_Number.calls 9 w.heap.size b e false _ _ _ w _ hId.out hBd.out hnum.out).mono ?_; rintro e1 W1 ⟨rfl, h1, h2, h3⟩; refine ⟨_, rfl, ?_⟩; have HW1 := Aside0.mk h2; clear h1 h2 h3)
      | (refine goes_ (N := some 29) Try.func28 (by kernel_rfl) rfl #[.slice A e c] (by rfl) rfl rfl (by simp only [List.map_toArray, List.map_cons, List.map_nil]; rfl) ?_; have hh := platenref20_Sum.calls ks A c (b.take e) _ W1 (Kd.C_below HTk.out.1 HW1.out) HTk.out.2 HS.out; rw [HTL.out] at hh; refine hh.mono ?_; rintro e2 W2 ⟨rfl, h1⟩; refine ⟨_, rfl, ?_⟩; have HW2 := Aside0.mk (below_step HW1.out h1.below); clear h1 hh))
    all_goals
      go_wp2
      go_ret2
      rw [HRO.out]
      exact ⟨rfl, HW2.out⟩
  | false =>
    have hq : (qn b (e, false) == fnvs (b.take e)) = false := by rw [← HRS.out]; exact hro
    have hq' : (qn b (e, false) != fnvs (b.take e)) = true := by simpa using hq
    have HRO := Aside0.mk hro
    clear hro
    go_region_law (first
      | (refine goes_ (N := some 25) Try.func43 (by kernel_rfl) rfl #[.pointer (some ⟨w.heap.size, 0, none⟩)] (by rfl) rfl rfl (by simp only [List.map_toArray, List.map_cons, List.map_nil]; rfl) ?_; refine (platenref20_Reader_Number.calls 9 w.heap.size b e false _ _ _ w _ hId.out hBd.out hnum.out).mono ?_; rintro e1 W1 ⟨rfl, h1, h2, h3⟩; refine ⟨_, rfl, ?_⟩; have HW1 := Aside0.mk h2; clear h1 h2 h3)
      | (refine goes_ (N := some 29) Try.func28 (by kernel_rfl) rfl #[.slice A e c] (by rfl) rfl rfl (by simp only [List.map_toArray, List.map_cons, List.map_nil]; rfl) ?_; have hh := platenref20_Sum.calls ks A c (b.take e) _ W1 (Kd.C_below HTk.out.1 HW1.out) HTk.out.2 HS.out; rw [HTL.out] at hh; refine hh.mono ?_; rintro e2 W2 ⟨rfl, h1⟩; refine ⟨_, rfl, ?_⟩; have HW2 := Aside0.mk (below_step HW1.out h1.below); clear h1 hh))
    all_goals
      go_wp2
      go_ret2
      rw [HRO.out]
      exact ⟨rfl, HW2.out⟩
end Go.Proofs.Ytihiapjfdgoomaa.A
