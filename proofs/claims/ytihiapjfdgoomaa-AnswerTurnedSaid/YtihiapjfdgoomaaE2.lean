/- What platenlaw20.beyond tells. The law AnswerBack tells true. -/
import Derived.Test.YtihiapjfdgoomaaD3
import Derived.Test.YtihiapjfdgoomaaPx4
import Derived.Test.YtihiapjfdgoomaaPx13
namespace Go.Proofs.Ytihiapjfdgoomaa.A
open Go.RowKit Go.Proofs.YtihiapjfdgoomaaW.PrintWords Go.Proofs.YtihiapjfdgoomaaW.PrintLast Go.Proofs.YtihiapjfdgoomaaW.PrintMore
open Go.Proofs.Ytihiapjfdgoomaa.P
set_option linter.unusedVariables false
set_option linter.unusedSimpArgs false

theorem up {α : Type} {f : Nat → Option α} (h : ∀ k, LeO (f k) (f (k + 1))) {k : Nat} {r : α} (hk : f k = some r) : ∀ k', k ≤ k' → f k' = some r := by
  intro k' hle
  induction hle with
  | refl => exact hk
  | step _ ih => exact h _ _ ih

def cB (b : S50) : Nat := 80 + b.f2.size
def cBs (l : List S50) : Nat := (l.map cB).sum
def cR (r : S48) : Nat := 32 + cBs r.f3
def cRs (l : List S48) : Nat := (l.map cR).sum
def cP (p : S45) : Nat := 32 + cRs p.f3
def cPs (l : List S45) : Nat := (l.map cP).sum
def fits (x : Int) : Prop := 0 ≤ x ∧ x ≤ 2147483648
/-- A sum that stays just above the bound. -/
def mo (x y : Int) : Int := if 2147483647 < x + y then 2147483648 else x + y
theorem more_tells (x y : Int) (hx : fits x) (hy : 0 ≤ y) : platenlaw20_more.f x y = some (mo x y) ∧ fits (mo x y) := by
  obtain ⟨h0, h1⟩ := hx
  unfold platenlaw20_more.f mo fits
  have e : x ≤ 2147483647 → wrap64 (2147483647 - x) = 2147483647 - x := by intro h; unfold wrap64; omega
  have e2 : x + y ≤ 2147483647 → wrap64 (x + y) = x + y := by intro h; unfold wrap64; omega
  by_cases h : x > 2147483647
  · rw [if_pos h, if_pos (by omega)]; exact ⟨rfl, by omega⟩
  · rw [if_neg h, e (by omega)]
    by_cases h2 : y > 2147483647 - x
    · rw [if_pos h2, if_pos (by omega)]; exact ⟨rfl, by omega⟩
    · rw [if_neg h2, if_neg (by omega), e2 (by omega)]; exact ⟨rfl, by omega⟩
theorem mo_le {x y C : Int} (h : mo x y + C ≤ 2147483647) (hC : 0 ≤ C) : x + y + C ≤ 2147483647 := by
  unfold mo at h
  split at h <;> omega

section
variable (a0 a1 a2 a3 : Int) (l : List S45)
theorem drop_sum {α : Type} (c : α → Nat) (z : α) (l : List α) (i : Nat) (h : i < l.length) : ((l.drop i).map c).sum = c (l.getD i z) + ((l.drop (i + 1)).map c).sum := by
  rw [List.drop_eq_getElem_cons h, List.map_cons, List.sum_cons]
  simp [List.getD_eq_getElem?_getD, List.getElem?_eq_getElem h]
theorem b_l2 (i j : Nat) (C : Int) (hC : 0 ≤ C) (hi : i < l.length) (hj : j < (rd_T45 l (i : Int)).f3.length) (hbx : (rd_T48 (rd_T45 l (i : Int)).f3 (j : Int)).f3.length ≤ 9223372036854775807)
    (H : ∀ t, fits t → ∃ k b, platenlaw20_beyond.l1 k t (i : Int) (wrap64 ((j : Int) + 1)) a0 a1 a2 a3 l = some b ∧ (b = false → t + C ≤ 2147483647)) :
    ∀ (d m : Nat) (x : Int), fits x → m + d = (rd_T48 (rd_T45 l (i : Int)).f3 (j : Int)).f3.length → ∃ k b, platenlaw20_beyond.l2 k x (i : Int) (j : Int) (m : Int) a0 a1 a2 a3 l = some b ∧
      (b = false → x + (cBs ((rd_T48 (rd_T45 l (i : Int)).f3 (j : Int)).f3.drop m) : Int) + C ≤ 2147483647) := by
  intro d
  induction d with
  | zero =>
    intro m x hx hm
    obtain ⟨k, b, hk, hb⟩ := H x hx
    refine ⟨k + 2, b, ?_, ?_⟩
    · simp only [platenlaw20_beyond.l2, platenlaw20_beyond.j5]
      rw [if_pos (by omega), if_pos (by omega), if_pos (by omega), if_pos (by omega), if_neg (by omega)]
      simpa using hk
    · intro h
      have := hb h
      rw [List.drop_eq_nil_of_le (by omega)]
      simp [cBs]
      exact this
  | succ d ih =>
    intro m x hx hm
    have hlt : (m : Int) < ((rd_T48 (rd_T45 l (i : Int)).f3 (j : Int)).f3.length : Int) := by omega
    by_cases hle : x ≤ 2147483647
    · obtain ⟨e1, f1⟩ := more_tells x 80 hx (by omega)
      obtain ⟨e2, f2⟩ := more_tells (mo x 80) ((rd_T50 (rd_T48 (rd_T45 l (i : Int)).f3 (j : Int)).f3 (m : Int)).f2.size : Int) f1 (by omega)
      obtain ⟨k, b, hk, hb⟩ := ih (m + 1) _ f2 (by omega)
      have hw : wrap64 ((m : Int) + 1) = ((m + 1 : Nat) : Int) := by unfold wrap64; omega
      refine ⟨k + 2, b, ?_, ?_⟩
      · simp only [platenlaw20_beyond.l2, platenlaw20_beyond.j5]
        rw [if_pos (by omega), if_pos (by omega), if_pos (by omega), if_pos (by omega), if_pos hlt]
        simp only [decide_eq_true_eq]
        rw [if_pos hle, e1]
        simp only [Option.bind_some]
        rw [if_pos (by omega), if_pos (by omega), if_pos (by omega), if_pos (by omega), if_pos (by omega), if_pos (by omega), e2]
        simp only [Option.bind_some]
        rw [hw]
        exact hk
      · intro h
        have h1 := hb h
        have h2 := mo_le (by rw [Int.add_assoc] at h1; exact h1) (by omega)
        have h3 := mo_le (x := x) (y := 80) (C := ((rd_T50 (rd_T48 (rd_T45 l (i : Int)).f3 (j : Int)).f3 (m : Int)).f2.size : Int) + ((cBs ((rd_T48 (rd_T45 l (i : Int)).f3 (j : Int)).f3.drop (m + 1)) : Int) + C)) (by omega) (by omega)
        have e : (cBs ((rd_T48 (rd_T45 l (i : Int)).f3 (j : Int)).f3.drop m) : Int) = 80 + ((rd_T50 (rd_T48 (rd_T45 l (i : Int)).f3 (j : Int)).f3 (m : Int)).f2.size : Int) + (cBs ((rd_T48 (rd_T45 l (i : Int)).f3 (j : Int)).f3.drop (m + 1)) : Int) := by
          unfold cBs
          rw [drop_sum cB z50 _ m (by omega)]
          simp only [rd_T50, Int.toNat_natCast, cB]
          omega
        rw [e]
        omega
    · obtain ⟨k, b, hk, hb⟩ := H x hx
      refine ⟨k + 2, b, ?_, ?_⟩
      · simp only [platenlaw20_beyond.l2, platenlaw20_beyond.j5]
        rw [if_pos (by omega), if_pos (by omega), if_pos (by omega), if_pos (by omega), if_pos hlt]
        simp only [decide_eq_true_eq]
        rw [if_neg hle]
        exact hk
      · intro h
        have := hb h
        omega
theorem b_l1 (i : Nat) (C : Int) (hC : 0 ≤ C) (hi : i < l.length) (hrw : (rd_T45 l (i : Int)).f3.length ≤ 9223372036854775807) (hbx : ∀ j : Nat, (rd_T48 (rd_T45 l (i : Int)).f3 (j : Int)).f3.length ≤ 9223372036854775807)
    (H : ∀ t, fits t → ∃ k b, platenlaw20_beyond.l0 k t (wrap64 ((i : Int) + 1)) a0 a1 a2 a3 l = some b ∧ (b = false → t + C ≤ 2147483647)) :
    ∀ (d j : Nat) (x : Int), fits x → j + d = (rd_T45 l (i : Int)).f3.length → ∃ k b, platenlaw20_beyond.l1 k x (i : Int) (j : Int) a0 a1 a2 a3 l = some b ∧
      (b = false → x + (cRs ((rd_T45 l (i : Int)).f3.drop j) : Int) + C ≤ 2147483647) := by
  intro d
  induction d with
  | zero =>
    intro j x hx hj
    obtain ⟨k, b, hk, hb⟩ := H x hx
    refine ⟨k + 2, b, ?_, ?_⟩
    · simp only [platenlaw20_beyond.l1, platenlaw20_beyond.j3]
      rw [if_pos (by omega), if_pos (by omega), if_neg (by omega)]
      simpa using hk
    · intro h
      have := hb h
      rw [List.drop_eq_nil_of_le (by omega)]
      simp [cRs]
      exact this
  | succ d ih =>
    intro j x hx hj
    have hlt : (j : Int) < ((rd_T45 l (i : Int)).f3.length : Int) := by omega
    have hw : wrap64 ((j : Int) + 1) = ((j + 1 : Nat) : Int) := by unfold wrap64; omega
    by_cases hle : x ≤ 2147483647
    · obtain ⟨e1, f1⟩ := more_tells x 32 hx (by omega)
      obtain ⟨k, b, hk, hb⟩ := b_l2 a0 a1 a2 a3 l i j ((cRs ((rd_T45 l (i : Int)).f3.drop (j + 1)) : Int) + C) (by omega) hi (by omega) (hbx j)
        (fun t ht => by
          obtain ⟨k, b, hk, hb⟩ := ih (j + 1) t ht (by omega)
          refine ⟨k, b, by rw [hw]; exact hk, fun h => ?_⟩
          have := hb h
          omega) _ 0 _ f1 (Nat.zero_add _)
      refine ⟨k + 2, b, ?_, ?_⟩
      · simp only [platenlaw20_beyond.l1, platenlaw20_beyond.j3]
        rw [if_pos (by omega), if_pos (by omega), if_pos hlt]
        simp only [decide_eq_true_eq]
        rw [if_pos hle, e1]
        simp only [Option.bind_some]
        exact hk
      · intro h
        have h1 := hb h
        rw [List.drop_zero] at h1
        have h2 := mo_le (x := x) (y := 32) (C := (cBs (rd_T48 (rd_T45 l (i : Int)).f3 (j : Int)).f3 : Int) + ((cRs ((rd_T45 l (i : Int)).f3.drop (j + 1)) : Int) + C)) (by omega) (by omega)
        have e : (cRs ((rd_T45 l (i : Int)).f3.drop j) : Int) = 32 + (cBs (rd_T48 (rd_T45 l (i : Int)).f3 (j : Int)).f3 : Int) + (cRs ((rd_T45 l (i : Int)).f3.drop (j + 1)) : Int) := by
          unfold cRs
          rw [drop_sum cR z48 _ j (by omega)]
          simp only [rd_T48, Int.toNat_natCast, cR]
          omega
        rw [e]
        omega
    · obtain ⟨k, b, hk, hb⟩ := H x hx
      refine ⟨k + 2, b, ?_, ?_⟩
      · simp only [platenlaw20_beyond.l1, platenlaw20_beyond.j3]
        rw [if_pos (by omega), if_pos (by omega), if_pos hlt]
        simp only [decide_eq_true_eq]
        rw [if_neg hle]
        exact hk
      · intro h
        have := hb h
        omega
theorem b_l0 (hl : l.length ≤ 9223372036854775807) (hrw : ∀ i : Nat, (rd_T45 l (i : Int)).f3.length ≤ 9223372036854775807) (hbx : ∀ i j : Nat, (rd_T48 (rd_T45 l (i : Int)).f3 (j : Int)).f3.length ≤ 9223372036854775807) :
    ∀ (d i : Nat) (x : Int), fits x → i + d = l.length → ∃ k b, platenlaw20_beyond.l0 k x (i : Int) a0 a1 a2 a3 l = some b ∧ (b = false → x + (cPs (l.drop i) : Int) ≤ 2147483647) := by
  intro d
  induction d with
  | zero =>
    intro i x hx hi
    refine ⟨2, decide (x > 2147483647), ?_, ?_⟩
    · simp only [platenlaw20_beyond.l0, platenlaw20_beyond.j1]
      rw [if_neg (by omega)]
      simp
    · intro h
      rw [List.drop_eq_nil_of_le (by omega)]
      simp [cPs]
      simpa using h
  | succ d ih =>
    intro i x hx hi
    have hlt : (i : Int) < (l.length : Int) := by omega
    have hw : wrap64 ((i : Int) + 1) = ((i + 1 : Nat) : Int) := by unfold wrap64; omega
    by_cases hle : x ≤ 2147483647
    · obtain ⟨e1, f1⟩ := more_tells x 32 hx (by omega)
      obtain ⟨k, b, hk, hb⟩ := b_l1 a0 a1 a2 a3 l i (cPs (l.drop (i + 1)) : Int) (by omega) (by omega) (hrw i) (hbx i)
        (fun t ht => by
          obtain ⟨k, b, hk, hb⟩ := ih (i + 1) t ht (by omega)
          exact ⟨k, b, by rw [hw]; exact hk, hb⟩) _ 0 _ f1 (Nat.zero_add _)
      refine ⟨k + 2, b, ?_, ?_⟩
      · simp only [platenlaw20_beyond.l0, platenlaw20_beyond.j1]
        rw [if_pos hlt]
        simp only [decide_eq_true_eq]
        rw [if_pos hle, e1]
        simp only [Option.bind_some]
        exact hk
      · intro h
        have h1 := hb h
        rw [List.drop_zero] at h1
        have h2 := mo_le (x := x) (y := 32) (C := (cRs (rd_T45 l (i : Int)).f3 : Int) + (cPs (l.drop (i + 1)) : Int)) (by omega) (by omega)
        have e : (cPs (l.drop i) : Int) = 32 + (cRs (rd_T45 l (i : Int)).f3 : Int) + (cPs (l.drop (i + 1)) : Int) := by
          unfold cPs
          rw [drop_sum cP z45 _ i (by omega)]
          simp only [rd_T45, Int.toNat_natCast, cP]
          omega
        rw [e]
        omega
    · refine ⟨2, true, ?_, by intro h; cases h⟩
      simp only [platenlaw20_beyond.l0, platenlaw20_beyond.j1]
      rw [if_pos hlt]
      simp only [decide_eq_true_eq]
      rw [if_neg hle]
      simp
      omega
end
theorem sum_le {α : Type} (f : α → List Int) (c : α → Nat) (h : ∀ x, (f x).length ≤ c x) (l : List α) : (l.flatMap f).length ≤ (l.map c).sum := by
  induction l with
  | nil => simp
  | cons x l ih => have := h x; simp only [List.flatMap_cons, List.length_append, List.map_cons, List.sum_cons]; omega
theorem cost (l : List S45) : (pgsB l).length ≤ cPs l := by
  refine sum_le pgB cP (fun p => ?_) l
  rw [pgB_length]
  have h1 : (rwsB p.f3).length ≤ cRs p.f3 := by
    refine sum_le rwB cR (fun r => ?_) p.f3
    rw [rwB_length]
    have h2 : (bxsB r.f3).length ≤ cBs r.f3 := sum_le bxB cB (fun b => by rw [bxB_length]; exact Nat.le_refl _) r.f3
    unfold cR
    omega
  unfold cP
  omega
/-- It tells; and what is not beyond has few bytes. -/
theorem beyond_tells (a0 a1 a2 a3 : Int) (l : List S45) (h : okA a0 a1 a2 a3 l) (hl : l.length ≤ 9223372036854775807) (hrw : ∀ i : Nat, (rd_T45 l (i : Int)).f3.length ≤ 9223372036854775807) (hbx : ∀ i j : Nat, (rd_T48 (rd_T45 l (i : Int)).f3 (j : Int)).f3.length ≤ 9223372036854775807) :
    ∃ K b, (∀ k, K ≤ k → platenlaw20_beyond.f k a0 a1 a2 a3 l = some b) ∧ (b = false → (bodyB a0 a1 a2 a3 l).length + 8 ≤ 2147483647) := by
  obtain ⟨e1, f1⟩ := more_tells 64 (l.length : Int) ⟨by omega, by omega⟩ (by omega)
  obtain ⟨k, b, hk, hb⟩ := b_l0 a0 a1 a2 a3 l hl hrw hbx l.length 0 _ f1 (Nat.zero_add _)
  refine ⟨k, b, up (fun k => platenlaw20_beyond.mono a0 a1 a2 a3 l k) ?_, ?_⟩
  · unfold platenlaw20_beyond.f
    rw [e1]
    exact hk
  · intro h
    have h1 := hb h
    rw [List.drop_zero] at h1
    have h2 := mo_le h1 (by omega)
    have h3 := cost l
    rw [bodyB_length]
    omega
end Go.Proofs.Ytihiapjfdgoomaa.A
namespace Go.Proofs.Ytihiapjfdgoomaa.A
open Go.RowKit Go.Proofs.YtihiapjfdgoomaaW.PrintWords Go.Proofs.YtihiapjfdgoomaaW.PrintLast Go.Proofs.YtihiapjfdgoomaaW.PrintMore
open Go.Proofs.Ytihiapjfdgoomaa.P
set_option linter.unusedVariables false
set_option linter.unusedSimpArgs false

theorem inR0 : inR 0 := ⟨by decide, by decide⟩
theorem ok_z50 : okB z50 := ⟨inR0, inR0, by decide, inR0, inR0, inR0, inR0, inR0, inR0, inR0⟩
theorem ok_z48 : okR z48 := ⟨inR0, by decide, fun _ h => nomatch h⟩
theorem ok_z45 : okP z45 := ⟨inR0, inR0, by decide, fun _ h => nomatch h⟩
theorem getD_all {α : Type} {P : α → Prop} {z : α} (hz : P z) {l : List α} (h : ∀ x ∈ l, P x) (i : Nat) : P (l.getD i z) := by
  rw [List.getD_eq_getElem?_getD]
  cases hx : l[i]? with
  | none => exact hz
  | some x => exact h x (List.mem_of_getElem? hx)
theorem ok45 {l : List S45} (h : ∀ x ∈ l, okP x) (i : Int) : okP (rd_T45 l i) := getD_all ok_z45 h _
theorem ok48 {l : List S48} (h : ∀ x ∈ l, okR x) (i : Int) : okR (rd_T48 l i) := getD_all ok_z48 h _

theorem sameRow_self (a0 : Int) (a1 a2 : Bool) (l : List S50) (hl : l.length ≤ 9223372036854775807) : ∀ k, l.length + 2 ≤ k → platenlaw20_sameRow.f k a0 a1 a2 l a0 a1 a2 l = some true := by
  have h0 : ∀ d i : Nat, i + d = l.length → platenlaw20_sameRow.l0 (d + 1) (i : Int) a0 a1 a2 l a0 a1 a2 l = some true := by
    intro d
    induction d with
    | zero => intro i hi; simp only [platenlaw20_sameRow.l0]; rw [if_neg (by omega)]
    | succ d ih =>
      intro i hi
      have hw : wrap64 ((i : Int) + 1) = ((i + 1 : Nat) : Int) := by unfold wrap64; omega
      rw [platenlaw20_sameRow.l0]
      rw [if_pos (by omega), if_pos (by omega), if_pos (by omega), if_neg (by simp), hw]
      exact ih (i + 1) (by omega)
  refine up (fun k => platenlaw20_sameRow.mono a0 a1 a2 l a0 a1 a2 l k) (k := l.length + 2) ?_
  unfold platenlaw20_sameRow.f
  rw [if_pos rfl, if_neg (by simp), if_neg (by simp)]
  simp only [platenlaw20_sameRow.j0]
  rw [if_neg (by simp)]
  exact h0 l.length 0 (by omega)
theorem same_l1 (a0 a1 a2 a3 : Int) (l : List S45) (i : Nat) (p : S45) (hp : okP p) (k0 : Nat) (hn : platenlaw20_same.l0 k0 (wrap64 ((i : Int) + 1)) a0 a1 a2 a3 l a0 a1 a2 a3 l = some true) :
    ∀ d j : Nat, j + d = p.f3.length → ∃ k, platenlaw20_same.l1 k (i : Int) (j : Int) a0 a1 a2 a3 l a0 a1 a2 a3 l p.f0 p.f1 p.f2 p.f3 p.f0 p.f1 p.f2 p.f3 = some true := by
  intro d
  induction d with
  | zero =>
    intro j hj
    refine ⟨k0 + 1, ?_⟩
    rw [platenlaw20_same.l1]
    rw [if_neg (by omega)]
    exact hn
  | succ d ih =>
    intro j hj
    obtain ⟨k, hk⟩ := ih (j + 1) (by omega)
    have hlen := hp.2.2.1
    have hw : wrap64 ((j : Int) + 1) = ((j + 1 : Nat) : Int) := by unfold wrap64; omega
    have hr := ok48 hp.2.2.2 (j : Int)
    have hs := sameRow_self (rd_T48 p.f3 (j : Int)).f0 (rd_T48 p.f3 (j : Int)).f1 (rd_T48 p.f3 (j : Int)).f2 (rd_T48 p.f3 (j : Int)).f3 (by have := hr.2.1; omega)
    obtain ⟨m, hm1, hm2⟩ : ∃ m, k ≤ m ∧ (rd_T48 p.f3 (j : Int)).f3.length + 2 ≤ m := ⟨k + ((rd_T48 p.f3 (j : Int)).f3.length + 2), by omega, by omega⟩
    have hk2 := up (f := fun k => platenlaw20_same.l1 k (i : Int) ((j + 1 : Nat) : Int) a0 a1 a2 a3 l a0 a1 a2 a3 l p.f0 p.f1 p.f2 p.f3 p.f0 p.f1 p.f2 p.f3) (fun k => (platenlaw20_same.mono_l k).2.2.2 _ _ _ _ _ _ _ _ _ _ _ _ _ _ _ _ _ _ _ _) hk m hm1
    have hs2 := hs m hm2
    refine ⟨m + 1, ?_⟩
    rw [platenlaw20_same.l1]
    rw [if_pos (by omega), if_pos (by omega), if_pos (by omega), hs2]
    simp only [Option.bind_some, if_true]
    rw [hw]
    exact hk2
theorem same_l0 (a0 a1 a2 a3 : Int) (l : List S45) (hl : l.length ≤ 9223372036854775807) (hp : ∀ x ∈ l, okP x) : ∀ d i : Nat, i + d = l.length → ∃ k, platenlaw20_same.l0 k (i : Int) a0 a1 a2 a3 l a0 a1 a2 a3 l = some true := by
  intro d
  induction d with
  | zero =>
    intro i hi
    refine ⟨1, ?_⟩
    rw [platenlaw20_same.l0]
    rw [if_neg (by omega)]
  | succ d ih =>
    intro i hi
    have hw : wrap64 ((i : Int) + 1) = ((i + 1 : Nat) : Int) := by unfold wrap64; omega
    have hok := ok45 hp (i : Int)
    obtain ⟨k0, hk0⟩ := ih (i + 1) (by omega)
    obtain ⟨k, hk⟩ := same_l1 a0 a1 a2 a3 l i (rd_T45 l (i : Int)) hok k0 (by rw [hw]; exact hk0) (rd_T45 l (i : Int)).f3.length 0 (by omega)
    refine ⟨k + 1 + 1, ?_⟩
    rw [platenlaw20_same.l0]
    rw [if_pos (by omega), if_pos (by omega), if_pos (by omega), if_pos rfl, if_pos rfl, if_neg (by simp)]
    rw [platenlaw20_same.j2]
    rw [if_neg (by simp)]
    exact hk
theorem same_self (a0 a1 a2 a3 : Int) (l : List S45) (hl : l.length ≤ 9223372036854775807) (hp : ∀ x ∈ l, okP x) : ∃ K, ∀ k, K ≤ k → platenlaw20_same.f k a0 a1 a2 a3 l a0 a1 a2 a3 l = some true := by
  obtain ⟨k, hk⟩ := same_l0 a0 a1 a2 a3 l hl hp l.length 0 (by omega)
  refine ⟨k + 1, up (f := fun k => platenlaw20_same.f k a0 a1 a2 a3 l a0 a1 a2 a3 l) (fun k => platenlaw20_same.mono _ _ _ _ _ _ _ _ _ _ k) ?_⟩
  unfold platenlaw20_same.f
  rw [if_neg (by simp), if_pos rfl, if_pos rfl]
  rw [platenlaw20_same.j0]
  rw [if_neg (by simp)]
  exact hk
theorem sameBytes_self (l : List Int) (hl : l.length ≤ 9223372036854775807) : ∀ k, l.length + 1 ≤ k → platenlaw20_sameBytes.f k l l = some true := by
  have h0 : ∀ d i : Nat, i + d = l.length → platenlaw20_sameBytes.l0 (d + 1) l l (i : Int) = some true := by
    intro d
    induction d with
    | zero => intro i hi; simp only [platenlaw20_sameBytes.l0]; rw [if_neg (by omega)]
    | succ d ih =>
      intro i hi
      have hw : wrap64 ((i : Int) + 1) = ((i + 1 : Nat) : Int) := by unfold wrap64; omega
      rw [platenlaw20_sameBytes.l0]
      rw [if_pos (by omega), if_pos (by omega), if_pos (by omega), if_pos rfl, hw]
      exact ih (i + 1) (by omega)
  refine up (fun k => platenlaw20_sameBytes.mono l l k) (k := l.length + 1) ?_
  unfold platenlaw20_sameBytes.f
  rw [if_pos rfl]
  exact h0 l.length 0 (by omega)

theorem shown_f : platenlaw20_shown.f = some true := rfl
theorem put_f (a0 a1 a2 a3 : Int) (l : List S45) : answer_Put.f a0 a1 a2 a3 l = putF a0 a1 a2 a3 l := rfl
theorem get_f (b : List Int) : answer_Get.f b = getT b := rfl
/-- The law's last part: of any bytes. -/
theorem back_j2 (b : List Int) (hb : byt b) (hl : b.length ≤ 2147483647) : ∃ K, ∀ k, K ≤ k → platenlaw20_AnswerBack.j2 k b = some true := by
  have hT : getT b = some (getF b) := if_pos (by omega)
  by_cases h : 56 ≤ b.length ∧ markOk b = true ∧ sumOk b = true ∧ gOk b = true
  · obtain ⟨e, ok, h2, h3, h0⟩ := put_get hb h
    have hF := getF_yes h
    have hlen := congrArg List.length e
    rw [putB_length] at hlen
    refine ⟨b.length + 2, fun k hk => ?_⟩
    obtain ⟨k, rfl⟩ : ∃ j, k = j + 1 := ⟨k - 1, by omega⟩
    rw [platenlaw20_AnswerBack.j2, get_f, hT, hF]
    simp only [Option.bind_some, if_true]
    rw [put_f]
    unfold putF
    rw [if_neg (by omega), if_pos (by omega)]
    simp only [Option.bind_some, if_true]
    rw [← e, sameBytes_self b (by omega) k (by omega)]
    rfl
  · have hF := getF_no h
    refine ⟨5, fun k hk => ?_⟩
    obtain ⟨k, rfl⟩ : ∃ j, k = j + 1 := ⟨k - 1, by omega⟩
    rw [platenlaw20_AnswerBack.j2, get_f, hT, hF]
    simp only [Option.bind_some]
    rw [if_neg (by decide), if_pos trivial]
    have h4 : platenlaw20_same.f 4 0 0 0 0 [] 0 0 0 0 [] = some true := by kernel_rfl
    have h5 := up (f := fun k => platenlaw20_same.f k 0 0 0 0 [] 0 0 0 0 []) (fun k => platenlaw20_same.mono _ _ _ _ _ _ _ _ _ _ k) h4 k (by omega)
    rw [h5]
    rfl
theorem back_true (a0 a1 a2 a3 : Int) (l : List S45) (b : List Int) (h : okA a0 a1 a2 a3 l) (hb : byt b) : ∃ k, platenlaw20_AnswerBack.f k a0 a1 a2 a3 l b = some true := by
  obtain ⟨K1, t, hK1, ht⟩ := beyond_tells a0 a1 a2 a3 l h (by have := h.2.2.2.2.1; omega) (fun i => by have := (ok45 h.2.2.2.2.2 (i : Int)).2.2.1; omega)
    (fun i j => by have := (ok48 (ok45 h.2.2.2.2.2 (i : Int)).2.2.2 (j : Int)).2.1; omega)
  cases t with
  | true =>
    refine ⟨K1 + 1, ?_⟩
    unfold platenlaw20_AnswerBack.f
    rw [hK1 _ (by omega)]
    simp only [Option.bind_some, if_true]
    rw [platenlaw20_AnswerBack.j0]
    rfl
  | false =>
    have hbody := ht rfl
    by_cases hbl : (b.length : Int) > 2147483647
    · refine ⟨K1 + 1, ?_⟩
      unfold platenlaw20_AnswerBack.f
      rw [hK1 _ (by omega)]
      simp only [Option.bind_some]
      rw [if_neg (by simp), platenlaw20_AnswerBack.j0]
      rw [if_pos (by simpa using hbl)]
    · obtain ⟨K2, hK2⟩ := back_j2 b hb (by omega)
      have tail : ∀ (wr : Bool) (x5 : List Int) (x6 : Int), putF a0 a1 a2 a3 l = some (x5, x6) → (wr = true ↔ (a2 < 0 ∨ a3 < 0 ∨ a0 ≠ 0 ∧ 0 < l.length)) → ∃ K, ∀ k, K ≤ k → platenlaw20_AnswerBack.j1 k b x5 x6 wr a0 a1 a2 a3 l = some true := by
        intro wr x5 x6 hp hw
        unfold putF at hp
        by_cases hwr : a2 < 0 ∨ a3 < 0 ∨ a0 ≠ 0 ∧ 0 < l.length
        · rw [if_pos hwr] at hp
          cases hp
          have hw1 : wr = true := hw.2 hwr
          subst hw1
          refine ⟨K2 + 1, fun k hk => ?_⟩
          obtain ⟨k, rfl⟩ : ∃ j, k = j + 1 := ⟨k - 1, by omega⟩
          rw [platenlaw20_AnswerBack.j1]
          rw [if_neg (by decide), if_neg (by decide)]
          exact hK2 _ (by omega)
        · rw [if_neg hwr, if_pos (by omega)] at hp
          cases hp
          have hw1 : wr = false := by
            cases wr with
            | false => rfl
            | true => exact absurd (hw.1 rfl) hwr
          subst hw1
          obtain ⟨K3, hK3⟩ := same_self a0 a1 a2 a3 l (by have := h.2.2.2.2.1; omega) h.2.2.2.2.2
          refine ⟨K2 + K3 + 1, fun k hk => ?_⟩
          obtain ⟨k, rfl⟩ : ∃ j, k = j + 1 := ⟨k - 1, by omega⟩
          have hT : getT (putB a0 a1 a2 a3 l) = some (a0, a1, a2, a3, l, 0) := by
            unfold getT
            rw [if_pos (by rw [putB_length]; omega), get_put a0 a1 a2 a3 l h (by omega) (by omega) (by omega)]
          rw [platenlaw20_AnswerBack.j1]
          rw [if_neg (by decide), if_pos rfl, get_f, hT]
          simp only [Option.bind_some, if_true]
          rw [hK3 _ (by omega)]
          simp only [Option.bind_some, if_true]
          exact hK2 _ (by omega)
      obtain ⟨x5, x6, hp⟩ : ∃ x5 x6, putF a0 a1 a2 a3 l = some (x5, x6) := by
        unfold putF
        split
        · exact ⟨_, _, rfl⟩
        · rw [if_pos (by omega)]; exact ⟨_, _, rfl⟩
      have fin : ∀ wr : Bool, (wr = true ↔ (a2 < 0 ∨ a3 < 0 ∨ a0 ≠ 0 ∧ 0 < l.length)) → (∀ k, platenlaw20_AnswerBack.f k a0 a1 a2 a3 l b = (platenlaw20_beyond.f k a0 a1 a2 a3 l).bind fun t134 => (if t134 = true then (platenlaw20_AnswerBack.j0 k b true a0 a1 a2 a3 l) else (platenlaw20_AnswerBack.j0 k b (decide ((b.length : Int) > 2147483647)) a0 a1 a2 a3 l))) →
          (∀ k, platenlaw20_AnswerBack.j0 (k + 1) b false a0 a1 a2 a3 l = platenlaw20_AnswerBack.j1 k b x5 x6 wr a0 a1 a2 a3 l) → ∃ k, platenlaw20_AnswerBack.f k a0 a1 a2 a3 l b = some true := by
        intro wr hw hf hj
        obtain ⟨K, hK⟩ := tail wr x5 x6 hp hw
        refine ⟨K + K1 + 1, ?_⟩
        rw [hf, hK1 _ (by omega)]
        simp only [Option.bind_some]
        rw [if_neg (by simp), show decide ((b.length : Int) > 2147483647) = false from by simpa using hbl, hj]
        exact hK _ (by omega)
      have hj0 : ∀ k, platenlaw20_AnswerBack.j0 (k + 1) b false a0 a1 a2 a3 l = (if a2 < 0 then (platenlaw20_AnswerBack.j1 k b x5 x6 true a0 a1 a2 a3 l) else (if a3 < 0 then (platenlaw20_AnswerBack.j1 k b x5 x6 true a0 a1 a2 a3 l) else (if a0 = 0 then (platenlaw20_AnswerBack.j1 k b x5 x6 false a0 a1 a2 a3 l) else (platenlaw20_AnswerBack.j1 k b x5 x6 (decide ((l.length : Int) > 0)) a0 a1 a2 a3 l)))) := by
        intro k
        rw [platenlaw20_AnswerBack.j0]
        rw [if_neg (by simp), shown_f]
        simp only [Option.bind_some, if_true]
        rw [put_f, hp]
        rfl
      by_cases h2 : a2 < 0
      · exact fin true (by simp [h2]) (fun k => rfl) (fun k => by rw [hj0, if_pos h2])
      · by_cases h3 : a3 < 0
        · exact fin true (by simp [h3]) (fun k => rfl) (fun k => by rw [hj0, if_neg h2, if_pos h3])
        · by_cases h0 : a0 = 0
          · exact fin false (by simp [h0]; omega) (fun k => rfl) (fun k => by rw [hj0, if_neg h2, if_neg h3, if_pos h0])
          · exact fin (decide ((l.length : Int) > 0)) (by simp [h0]; omega) (fun k => rfl) (fun k => by rw [hj0, if_neg h2, if_neg h3, if_neg h0])
end Go.Proofs.Ytihiapjfdgoomaa.A
