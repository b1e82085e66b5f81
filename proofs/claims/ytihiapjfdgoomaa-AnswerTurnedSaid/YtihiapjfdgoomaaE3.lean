/- The plain law of AnswerTurned: no beginning of an answer's bytes is one, nor are they with more behind, or with a byte turned. -/
import Derived.Test.YtihiapjfdgoomaaD3
namespace Go.Proofs.Ytihiapjfdgoomaa.A
open Go.RowKit Go.Proofs.YtihiapjfdgoomaaW.PrintWords Go.Proofs.YtihiapjfdgoomaaW.PrintLast Go.Proofs.YtihiapjfdgoomaaW.PrintMore
open Go.Proofs.Ytihiapjfdgoomaa.P
set_option linter.unusedVariables false
set_option linter.unusedSimpArgs false

theorem inner_inj {a0 a1 a2 a3 b0 b1 b2 b3 : Int} {l m : List S45} {R R' : List Int} (ha : okA a0 a1 a2 a3 l) (hb : okA b0 b1 b2 b3 m) (h : inner a0 a1 a2 a3 l ++ R = inner b0 b1 b2 b3 m ++ R') : R = R' := by
  obtain ⟨_, _, _, _, e4, e5⟩ := body_fwd a0 a1 a2 a3 l R ha _ rfl
  obtain ⟨_, _, _, _, f4, f5⟩ := body_fwd b0 b1 b2 b3 m R' hb (inner a0 a1 a2 a3 l ++ R, false) (by rw [h])
  rw [e4] at f4
  simp only [Prod.mk.injEq] at f4
  obtain ⟨g1, g2, _⟩ := f4
  have hl : l.length = m.length := by omega
  rw [g2, hl] at e5
  rw [e5] at f5
  simp only [Prod.mk.injEq] at f5
  exact f5.2.1
theorem getF_code {b : List Int} (hb : byt b) (h : ∀ a0 a1 a2 a3 l, okA a0 a1 a2 a3 l → b ≠ putB a0 a1 a2 a3 l) : getF b = (0, 0, 0, 0, [], 200) := by
  by_cases hc : 56 ≤ b.length ∧ markOk b = true ∧ sumOk b = true ∧ gOk b = true
  · obtain ⟨e, ok, _⟩ := put_get hb hc
    exact absurd e (h _ _ _ _ _ ok)
  · exact getF_no hc
theorem putB_eq (a0 a1 a2 a3 : Int) (l : List S45) : putB a0 a1 a2 a3 l = markB ++ (inner a0 a1 a2 a3 l ++ be8 (wrap64 (fnvs (bodyB a0 a1 a2 a3 l)))) := by
  unfold putB
  rw [bodyB_eq, List.append_assoc]
theorem byt_putB (a0 a1 a2 a3 : Int) (l : List S45) : byt (putB a0 a1 a2 a3 l) := byt_app (byt_bodyB _ _ _ _ _) (byt_be8 _)
theorem get_begin {a0 a1 a2 a3 : Int} {l : List S45} (ok : okA a0 a1 a2 a3 l) (at_ : Nat) (h : at_ < (putB a0 a1 a2 a3 l).length) : getF ((putB a0 a1 a2 a3 l).take at_) = (0, 0, 0, 0, [], 200) := by
  refine getF_code (fun x hx => byt_putB a0 a1 a2 a3 l x (List.mem_of_mem_take hx)) fun b0 b1 b2 b3 m okb e => ?_
  have h1 := List.take_append_drop at_ (putB a0 a1 a2 a3 l)
  rw [e, putB_eq, putB_eq, List.append_assoc, List.append_assoc, ← putB_eq a0 a1 a2 a3 l] at h1
  have h2 := congrArg List.length (inner_inj okb ok (List.append_cancel_left h1))
  simp only [List.length_append, be8_length, List.length_drop] at h2
  omega
theorem get_more {a0 a1 a2 a3 : Int} {l : List S45} (ok : okA a0 a1 a2 a3 l) (x : Int) (hx : 0 ≤ x ∧ x < 256) : getF (putB a0 a1 a2 a3 l ++ [x]) = (0, 0, 0, 0, [], 200) := by
  refine getF_code (byt_app (byt_putB _ _ _ _ _) (fun y hy => by rw [List.mem_singleton.1 hy]; exact hx)) fun b0 b1 b2 b3 m okb e => ?_
  rw [putB_eq, putB_eq, List.append_assoc, List.append_assoc] at e
  have h2 := congrArg List.length (inner_inj ok okb (List.append_cancel_left e))
  simp only [List.length_append, be8_length, List.length_cons, List.length_nil] at h2
  omega

/-! ### The check sum tells two bytes apart -/
theorem bits_xor (k : IntKind) (j : Nat) (hj : j ≤ k.bits) (hk : ∀ n : Int, 0 ≤ n → n < 2 ^ j → k.wrap n = n) (a b : Nat) (ha : a < 2 ^ j) (hb : b < 2 ^ j) :
    Go.bits .xor k a b = ((a ^^^ b : Nat) : Int) := by
  have hp : 2 ^ j ≤ 2 ^ k.bits := Nat.pow_le_pow_right (by decide) hj
  have ha' : a % 2 ^ k.bits = a := Nat.mod_eq_of_lt (Nat.lt_of_lt_of_le ha hp)
  have hb' : b % 2 ^ k.bits = b := Nat.mod_eq_of_lt (Nat.lt_of_lt_of_le hb hp)
  have cast : ∀ n : Nat, n < 2 ^ j → ((n : Nat) : Int) < 2 ^ j := fun n h => by exact_mod_cast h
  simp only [Go.bits, BitVec.ofInt_natCast, BitVec.toNat_xor, BitVec.toNat_ofNat, ha', hb']
  exact hk _ (Int.natCast_nonneg _) (cast _ (Nat.xor_lt_two_pow ha hb))
theorem xor_nat (a b : Nat) (ha : a < 2 ^ 64) (hb : b < 2 ^ 64) : Go.bits .xor .u64 a b = ((a ^^^ b : Nat) : Int) := bits_xor .u64 64 (Nat.le_refl _) wraps_u64 a b ha hb
def inU (n : Int) : Prop := 0 ≤ n ∧ n < 18446744073709551616
theorem inU_nat {n : Int} (h : inU n) : ∃ a : Nat, n = a ∧ a < 2 ^ 64 := by
  obtain ⟨a, ha⟩ := Int.eq_ofNat_of_zero_le h.1
  exact ⟨a, ha, by have := h.2; omega⟩
theorem xor_in {a b : Int} (ha : inU a) (hb : inU b) : inU (Go.bits .xor .u64 a b) := by
  obtain ⟨x, rfl, hx⟩ := inU_nat ha
  obtain ⟨y, rfl, hy⟩ := inU_nat hb
  rw [xor_nat x y hx hy]
  have := Nat.xor_lt_two_pow hx hy
  have h2 : x ^^^ y < 18446744073709551616 := this
  exact ⟨Int.natCast_nonneg _, by omega⟩
theorem xor_right {a b c : Int} (ha : inU a) (hb : inU b) (hc : inU c) (h : Go.bits .xor .u64 a b = Go.bits .xor .u64 a c) : b = c := by
  obtain ⟨x, rfl, hx⟩ := inU_nat ha
  obtain ⟨y, rfl, hy⟩ := inU_nat hb
  obtain ⟨z, rfl, hz⟩ := inU_nat hc
  rw [xor_nat x y hx hy, xor_nat x z hx hz] at h
  have h2 : x ^^^ y = x ^^^ z := by exact_mod_cast h
  have h3 : x ^^^ (x ^^^ y) = x ^^^ (x ^^^ z) := by rw [h2]
  rw [← Nat.xor_assoc, ← Nat.xor_assoc, Nat.xor_self, Nat.zero_xor, Nat.zero_xor] at h3
  rw [h3]
theorem xor_comm_ {a b : Int} (ha : inU a) (hb : inU b) : Go.bits .xor .u64 a b = Go.bits .xor .u64 b a := by
  obtain ⟨x, rfl, hx⟩ := inU_nat ha
  obtain ⟨y, rfl, hy⟩ := inU_nat hb
  rw [xor_nat x y hx hy, xor_nat y x hy hx, Nat.xor_comm]
theorem mul_inj {a b : Int} (ha : inU a) (hb : inU b) (h : (a * 1099511628211) % 18446744073709551616 = (b * 1099511628211) % 18446744073709551616) : a = b := by
  have key : ∀ x : Int, inU x → ((x * 1099511628211) % 18446744073709551616 * 14886173955864302971) % 18446744073709551616 = x := by
    intro x hx
    obtain ⟨h0, h1⟩ := hx
    omega
  rw [← key a ha, h, key b hb]
theorem byte_inU {c : Int} (h : 0 ≤ c ∧ c < 256) : inU c := ⟨h.1, by omega⟩
theorem fnv_in (s c : Int) : inU (fnv s c) := by unfold fnv inU; rw [wrapU]; omega
theorem fnv_cancel {s s' c c' : Int} (hs : inU s) (hs' : inU s') (hc : 0 ≤ c ∧ c < 256) (hc' : 0 ≤ c' ∧ c' < 256) (h : fnv s c = fnv s' c') : Go.bits .xor .u64 s c = Go.bits .xor .u64 s' c' := by
  unfold fnv at h
  rw [wraps_u64 c hc.1 (by omega), wraps_u64 c' hc'.1 (by omega), wrapU, wrapU] at h
  exact mul_inj (xor_in hs (byte_inU hc)) (xor_in hs' (byte_inU hc')) h
theorem fold_inj : ∀ (l : List Int) (s s' : Int), byt l → inU s → inU s' → l.foldl fnv s = l.foldl fnv s' → s = s'
  | [], _, _, _, _, _, h => h
  | c :: l, s, s', hb, hs, hs', h => by
    have h1 := fold_inj l (fnv s c) (fnv s' c) (fun x hx => hb x (List.mem_cons_of_mem _ hx)) (fnv_in _ _) (fnv_in _ _) h
    have hc := hb c List.mem_cons_self
    have h2 := fnv_cancel hs hs' hc hc h1
    rw [xor_comm_ hs (byte_inU hc), xor_comm_ hs' (byte_inU hc)] at h2
    exact xor_right (byte_inU hc) hs hs' h2
theorem fnvs_in (l : List Int) (s : Int) (hs : inU s) : inU (l.foldl fnv s) := by
  induction l generalizing s with
  | nil => exact hs
  | cons c l ih => exact ih _ (fnv_in _ _)
theorem fnv0 : inU 14695981039346656037 := ⟨by decide, by decide⟩
/-- One byte turned: another sum. -/
theorem fnvs_turned {p q : List Int} {c c' : Int} (hp : byt (p ++ c :: q)) (hc' : 0 ≤ c' ∧ c' < 256) (h : fnvs (p ++ c :: q) = fnvs (p ++ c' :: q)) : c = c' := by
  unfold fnvs at h
  rw [List.foldl_append, List.foldl_append, List.foldl_cons, List.foldl_cons] at h
  have hq : byt q := fun x hx => hp x (List.mem_append_right _ (List.mem_cons_of_mem _ hx))
  have hc := hp c (List.mem_append_right _ List.mem_cons_self)
  have hs := fnvs_in p _ fnv0
  have h1 := fold_inj q _ _ hq (fnv_in _ _) (fnv_in _ _) h
  exact xor_right hs (byte_inU hc) (byte_inU hc') (fnv_cancel hs hs hc hc' h1)
theorem wrap_inj {a b : Int} (ha : inU a) (hb : inU b) (h : wrap64 a = wrap64 b) : a = b := by
  unfold wrap64 at h
  obtain ⟨h0, h1⟩ := ha
  obtain ⟨h2, h3⟩ := hb
  omega
theorem get_turned {a0 a1 a2 a3 : Int} {l : List S45} (ok : okA a0 a1 a2 a3 l) (i : Nat) (h : i < (putB a0 a1 a2 a3 l).length) (v : Int) (hv : 0 ≤ v ∧ v < 256) (hne : rd (putB a0 a1 a2 a3 l) (i : Int) ≠ v) :
    getF ((putB a0 a1 a2 a3 l).set i v) = (0, 0, 0, 0, [], 200) := by
  have hb := byt_putB a0 a1 a2 a3 l
  have hrd : rd (putB a0 a1 a2 a3 l) (i : Int) = (putB a0 a1 a2 a3 l)[i] := by simp [rd, List.getD_eq_getElem?_getD, List.getElem?_eq_getElem h]
  refine getF_code (fun x hx => ?_) fun b0 b1 b2 b3 m okb e => ?_
  · rcases List.mem_or_eq_of_mem_set hx with hx | rfl
    · exact hb x hx
    · exact hv
  · have hlen := congrArg List.length e
    rw [List.length_set, putB_length, putB_length] at hlen
    have hl2 : (bodyB a0 a1 a2 a3 l).length = (bodyB b0 b1 b2 b3 m).length := by omega
    rw [putB_length] at h
    by_cases hi : i < (bodyB a0 a1 a2 a3 l).length
    · -- in the body: the sums are the same
      unfold putB at e
      rw [List.set_append_left _ _ hi] at e
      obtain ⟨e1, e2⟩ := List.append_inj e (by rw [List.length_set]; exact hl2)
      have e3 := congrArg (fun x => wrap64 (fold8 x)) e2
      simp only [poly_be8 _ (inR_wrap _)] at e3
      have e4 := wrap_inj (fnvs_in _ _ fnv0) (fnvs_in _ _ fnv0) e3
      rw [← e1] at e4
      have hbd := byt_bodyB a0 a1 a2 a3 l
      have e5 : bodyB a0 a1 a2 a3 l = (bodyB a0 a1 a2 a3 l).take i ++ (bodyB a0 a1 a2 a3 l)[i] :: (bodyB a0 a1 a2 a3 l).drop (i + 1) := by
        rw [← List.drop_eq_getElem_cons hi, List.take_append_drop]
      have e6 : (bodyB a0 a1 a2 a3 l).set i v = (bodyB a0 a1 a2 a3 l).take i ++ v :: (bodyB a0 a1 a2 a3 l).drop (i + 1) := List.set_eq_take_append_cons_drop.trans (if_pos hi)
      have e7 := fnvs_turned (p := (bodyB a0 a1 a2 a3 l).take i) (q := (bodyB a0 a1 a2 a3 l).drop (i + 1)) (c := (bodyB a0 a1 a2 a3 l)[i]) (c' := v) (by rw [← e5]; exact hbd) hv (by rw [← e5, ← e6]; exact e4)
      apply hne
      rw [hrd, ← e7]
      simp only [putB]
      rw [List.getElem_append_left hi]
    · unfold putB at e
      rw [List.set_append_right _ _ (by omega)] at e
      obtain ⟨e1, e2⟩ := List.append_inj e hl2
      rw [← e1] at e2
      have e3 : ((be8 (wrap64 (fnvs (bodyB a0 a1 a2 a3 l)))).set (i - (bodyB a0 a1 a2 a3 l).length) v)[i - (bodyB a0 a1 a2 a3 l).length]? = (be8 (wrap64 (fnvs (bodyB a0 a1 a2 a3 l))))[i - (bodyB a0 a1 a2 a3 l).length]? := by rw [e2]
      rw [List.getElem?_set_self (by rw [be8_length]; omega)] at e3
      apply hne
      rw [hrd]
      have e4 : (putB a0 a1 a2 a3 l)[i]? = some v := by
        unfold putB
        rw [List.getElem?_append_right (by omega)]
        exact e3.symm
      have e5 := List.getElem?_eq_getElem (l := putB a0 a1 a2 a3 l) (i := i) (by rw [putB_length]; exact h)
      rw [e5] at e4
      exact Option.some.inj e4
end Go.Proofs.Ytihiapjfdgoomaa.A
