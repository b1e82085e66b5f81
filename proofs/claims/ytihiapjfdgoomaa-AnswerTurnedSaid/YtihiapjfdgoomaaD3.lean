/- The plain law of chapter 20: what is laid down is read as it was; what is read well is what would be laid down. The plain law of chapter 20: boxes, rows, pages, answers there and back. The plain law of chapter 20: pages and whole answers there and back. -/
import Derived.Test.YtihiapjfdgoomaaB9
namespace Go.Proofs.Ytihiapjfdgoomaa.A
open Go.RowKit Go.Proofs.YtihiapjfdgoomaaW.PrintWords Go.Proofs.YtihiapjfdgoomaaW.PrintLast Go.Proofs.YtihiapjfdgoomaaW.PrintMore
open Go.Proofs.Ytihiapjfdgoomaa.P
set_option linter.unusedVariables false
set_option linter.unusedSimpArgs false

def inR (n : Int) : Prop := -9223372036854775808 ≤ n ∧ n < 9223372036854775808
def byt (l : List Int) : Prop := ∀ x ∈ l, 0 ≤ x ∧ x < 256
theorem byt_app {a b : List Int} (ha : byt a) (hb : byt b) : byt (a ++ b) := fun x hx => (List.mem_append.1 hx).elim (ha x) (hb x)
theorem byt_right {a b : List Int} (h : byt (a ++ b)) : byt b := fun x hx => h x (List.mem_append_right _ hx)
theorem byt_left {a b : List Int} (h : byt (a ++ b)) : byt a := fun x hx => h x (List.mem_append_left _ hx)
theorem byt_be8 (n : Int) : byt (be8 n) := fun x hx => by
  simp only [be8, List.mem_cons, List.not_mem_nil, or_false] at hx
  rcases hx with rfl | rfl | rfl | rfl | rfl | rfl | rfl | rfl <;> omega
theorem wrapU (n : Int) : IntKind.u64.wrap n = n % 18446744073709551616 := IntKind.wrap_u64 n
theorem wraps_u64 (n : Int) (h0 : 0 ≤ n) (h1 : n < 2 ^ 64) : IntKind.u64.wrap n = n := by rw [wrapU]; omega
theorem step8_eq (n c : Int) (hn : 0 ≤ n) (hn1 : n < 72057594037927936) (hc : 0 ≤ c) (hc1 : c < 256) : step8 n c = n * 256 + c := by
  unfold step8
  rw [wraps_u64 (n * 256) (by omega) (by omega), wraps_u64 c hc (by omega)]
  exact bits_join .u64 64 (by decide) wraps_u64 8 (n * 256) c (by omega) (by omega) (by omega) hc (by omega) (by omega)
def poly (b0 b1 b2 b3 b4 b5 b6 b7 : Int) : Int := ((((((b0 * 256 + b1) * 256 + b2) * 256 + b3) * 256 + b4) * 256 + b5) * 256 + b6) * 256 + b7
theorem fold8_eq {b0 b1 b2 b3 b4 b5 b6 b7 : Int} (h : byt [b0, b1, b2, b3, b4, b5, b6, b7]) : fold8 [b0, b1, b2, b3, b4, b5, b6, b7] = poly b0 b1 b2 b3 b4 b5 b6 b7 := by
  have h0 := h b0 (by simp)
  have h1 := h b1 (by simp)
  have h2 := h b2 (by simp)
  have h3 := h b3 (by simp)
  have h4 := h b4 (by simp)
  have h5 := h b5 (by simp)
  have h6 := h b6 (by simp)
  have h7 := h b7 (by simp)
  simp only [fold8, List.foldl_cons, List.foldl_nil]
  rw [step8_eq 0 b0 (by omega) (by omega) h0.1 h0.2]
  rw [step8_eq _ b1 (by omega) (by omega) h1.1 h1.2]
  rw [step8_eq _ b2 (by omega) (by omega) h2.1 h2.2]
  rw [step8_eq _ b3 (by omega) (by omega) h3.1 h3.2]
  rw [step8_eq _ b4 (by omega) (by omega) h4.1 h4.2]
  rw [step8_eq _ b5 (by omega) (by omega) h5.1 h5.2]
  rw [step8_eq _ b6 (by omega) (by omega) h6.1 h6.2]
  rw [step8_eq _ b7 (by omega) (by omega) h7.1 h7.2]
  unfold poly
  omega
theorem poly_be8 (n : Int) (h : inR n) : wrap64 (fold8 (be8 n)) = n := by
  have hb := byt_be8 n
  unfold be8 at hb ⊢
  rw [fold8_eq hb]
  have h1 := h.1
  have h2 := h.2
  unfold poly wrap64
  rw [wrapU]
  omega
theorem be8_poly {b0 b1 b2 b3 b4 b5 b6 b7 : Int} (h : byt [b0, b1, b2, b3, b4, b5, b6, b7]) : be8 (wrap64 (fold8 [b0, b1, b2, b3, b4, b5, b6, b7])) = [b0, b1, b2, b3, b4, b5, b6, b7] := by
  have h0 := h b0 (by simp)
  have h1 := h b1 (by simp)
  have h2 := h b2 (by simp)
  have h3 := h b3 (by simp)
  have h4 := h b4 (by simp)
  have h5 := h b5 (by simp)
  have h6 := h b6 (by simp)
  have h7 := h b7 (by simp)
  rw [fold8_eq h]
  unfold be8
  have e : IntKind.u64.wrap (wrap64 (poly b0 b1 b2 b3 b4 b5 b6 b7)) = poly b0 b1 b2 b3 b4 b5 b6 b7 := by
    unfold poly wrap64
    rw [wrapU]
    omega
  rw [e]
  unfold poly
  congr 1
  · omega
  congr 1
  · omega
  congr 1
  · omega
  congr 1
  · omega
  congr 1
  · omega
  congr 1
  · omega
  congr 1
  · omega
  congr 1
  · omega
theorem inR_wrap (n : Int) : inR (wrap64 n) := by unfold inR wrap64; omega

/-! ### Numbers -/
theorem tk_fwd (a rest : List Int) (n : Int) (h : (a.length : Int) = n) : tk n (a ++ rest) false = (a, rest, false) := by
  unfold tk
  rw [if_neg (by simp; omega)]
  have : n.toNat = a.length := by omega
  rw [this]
  simp
theorem tk_bwd {n : Int} {l : List Int} {bad : Bool} (h : (tk n l bad).2.2 = false) : bad = false ∧ 0 ≤ n ∧ ((tk n l bad).1.length : Int) = n ∧ l = (tk n l bad).1 ++ (tk n l bad).2.1 := by
  unfold tk at h ⊢
  split at h
  · cases h
  · rename_i hc
    rw [if_neg hc]
    have h1 : bad = false := by cases bad <;> simp_all
    refine ⟨h1, by omega, ?_, by simp⟩
    simp
    omega
theorem num_fwd (n : Int) (rest : List Int) (h : inR n) : nv (be8 n ++ rest, false) = n ∧ ns (be8 n ++ rest, false) = (rest, false) := by
  unfold nv ns numR
  simp only [tk_fwd (be8 n) rest 8 rfl]
  exact ⟨poly_be8 n h, trivial⟩
theorem num_bwd (s : St) (hb : byt s.1) (h : (ns s).2 = false) : s.2 = false ∧ s.1 = be8 (nv s) ++ (ns s).1 ∧ inR (nv s) ∧ byt (ns s).1 := by
  obtain ⟨h1, _, h3, h4⟩ := tk_bwd (n := 8) (l := s.1) (bad := s.2) h
  have hb1 : byt (tk 8 s.1 s.2).1 := by rw [h4] at hb; exact byt_left hb
  have hb2 : byt (tk 8 s.1 s.2).2.1 := by rw [h4] at hb; exact byt_right hb
  refine ⟨h1, ?_, inR_wrap _, hb2⟩
  have e : be8 (nv s) = (tk 8 s.1 s.2).1 := by
    unfold nv numR
    simp only
    generalize tk 8 s.1 s.2 = t at h3 hb1
    obtain ⟨x, y⟩ := t
    simp only at h3 hb1 ⊢
    match x, h3, hb1 with
    | [b0, b1, b2, b3, b4, b5, b6, b7], _, hb => exact be8_poly hb
  rw [e]
  exact h4

/-! ### Truths -/
theorem tr_fwd (t : Bool) (rest : List Int) : bv (trB t ++ rest, false) = t ∧ bs (trB t ++ rest, false) = (rest, false) := by
  unfold bv bs truR
  simp only [tk_fwd (trB t) rest 1 rfl]
  cases t <;> simp [trB, rd]
theorem tr_bwd (s : St) (hb : byt s.1) (h : (bs s).2 = false) : s.2 = false ∧ s.1 = trB (bv s) ++ (bs s).1 ∧ byt (bs s).1 := by
  have h' : (tk 1 s.1 s.2).2.2 = false := by
    unfold bs truR at h
    split at h
    · exact h
    · simp only [Bool.or_eq_false_iff] at h; exact h.1
  obtain ⟨h1, _, h3, h4⟩ := tk_bwd h'
  have hb1 : byt (tk 1 s.1 s.2).1 := by rw [h4] at hb; exact byt_left hb
  have hb2 : byt (tk 1 s.1 s.2).2.1 := by rw [h4] at hb; exact byt_right hb
  have e1 : (bs s).1 = (tk 1 s.1 s.2).2.1 := by unfold bs truR; split <;> rfl
  refine ⟨h1, ?_, by rw [e1]; exact hb2⟩
  rw [e1]
  have e2 : trB (bv s) = (tk 1 s.1 s.2).1 := by
    unfold bs at h
    unfold bv
    unfold truR at h ⊢
    generalize tk 1 s.1 s.2 = t at h3 hb1 h
    obtain ⟨x, y⟩ := t
    simp only at h3 hb1 h ⊢
    match x, h3, hb1 with
    | [b], _, hb =>
      have hx := hb b (by simp)
      simp [rd] at h ⊢
      have h01 : b = 0 ∨ b = 1 := by omega
      rcases h01 with rfl | rfl <;> simp [trB]
  rw [e2]
  exact h4

/-! ### Texts -/
theorem strOfNums_bytesOf (s : ByteArray) : strOfNums (bytesOf s) = s := by
  have h : (strOfNums (bytesOf s)).data.toList = s.data.toList := by
    rw [strOfNums_data, bytesOf, List.map_map]
    conv => rhs; rw [← List.map_id s.data.toList]
    refine List.map_congr_left fun x hx => ?_
    simp
  have h2 : (strOfNums (bytesOf s)).data = s.data := Array.ext' h
  cases s
  exact congrArg ByteArray.mk h2
theorem bytesOf_len (s : ByteArray) : (bytesOf s).length = s.size := bytesOf_length s
theorem byt_bytesOf (s : ByteArray) : byt (bytesOf s) := fun x hx => by
  simp only [bytesOf, List.mem_map] at hx
  obtain ⟨u, _, rfl⟩ := hx
  exact ⟨Int.natCast_nonneg _, by have := u.toNat_lt; omega⟩
def txB (s : ByteArray) : List Int := be8 s.size ++ bytesOf s
theorem tx_fwd (s : ByteArray) (rest : List Int) (h : (s.size : Int) < 9223372036854775808) : tv (txB s ++ rest, false) = s ∧ ts (txB s ++ rest, false) = (rest, false) := by
  have e := num_fwd s.size (bytesOf s ++ rest) ⟨by omega, h⟩
  unfold nv ns at e
  unfold tv ts txtR txB
  rw [List.append_assoc]
  obtain ⟨e1, e2⟩ := e
  simp only at e1 e2 ⊢
  rw [e1, e2]
  simp only [tk_fwd (bytesOf s) rest s.size (by rw [bytesOf_len])]
  exact ⟨strOfNums_bytesOf s, trivial⟩
theorem tx_bwd (s : St) (hb : byt s.1) (h : (ts s).2 = false) : s.2 = false ∧ s.1 = txB (tv s) ++ (ts s).1 ∧ ((tv s).size : Int) < 9223372036854775808 ∧ byt (ts s).1 := by
  unfold ts txtR at h
  simp only at h
  obtain ⟨h1, h2, h3, h4⟩ := tk_bwd h
  obtain ⟨k1, k2, k3, k4⟩ := num_bwd s hb h1
  have hn : byt (numR s.1 s.2).2.1 := k4
  have hb1 : byt (tk (numR s.1 s.2).1 (numR s.1 s.2).2.1 (numR s.1 s.2).2.2).1 := by rw [h4] at hn; exact byt_left hn
  have hb2 : byt (tk (numR s.1 s.2).1 (numR s.1 s.2).2.1 (numR s.1 s.2).2.2).2.1 := by rw [h4] at hn; exact byt_right hn
  have e1 : tv s = strOfNums (tk (numR s.1 s.2).1 (numR s.1 s.2).2.1 (numR s.1 s.2).2.2).1 := rfl
  have e2 : (ts s).1 = (tk (numR s.1 s.2).1 (numR s.1 s.2).2.1 (numR s.1 s.2).2.2).2.1 := rfl
  have e3 : ((tv s).size : Int) = nv s := by rw [e1, strOfNums_size, h3]; rfl
  refine ⟨k1, ?_, by rw [e3]; exact k3.2, by rw [e2]; exact hb2⟩
  unfold txB
  rw [e3, e1, e2, bytesOf_strOfNums _ hb1, List.append_assoc, ← h4]
  exact k2

/-! ### How many -/
theorem mn_fwd (least : Int) (hl : 1 ≤ least) (n : Nat) (rest : List Int) (h : (n : Int) * least ≤ rest.length) (hn : (n : Int) < 9223372036854775808) : mnyR least (be8 n ++ rest) false = ((n : Int), rest, false) := by
  have e := num_fwd n rest ⟨by omega, hn⟩
  unfold nv ns at e
  obtain ⟨e1, e2⟩ := e
  simp only at e1 e2
  have e3 : numR (be8 n ++ rest) false = ((n : Int), rest, false) := Prod.ext e1 e2
  have hd : (n : Int) ≤ (rest.length : Int) / least := (Int.le_ediv_iff_mul_le (by omega)).2 h
  unfold mnyR
  rw [e3]
  simp only
  rw [if_neg (by omega)]
theorem mn_bwd (least : Int) (s : St) (hb : byt s.1) (h : (mnyR least s.1 s.2).2.2 = false) : s.2 = false ∧ s.1 = be8 (mnyR least s.1 s.2).1 ++ (mnyR least s.1 s.2).2.1 ∧ 0 ≤ (mnyR least s.1 s.2).1 ∧ (mnyR least s.1 s.2).1 < 9223372036854775808 ∧ byt (mnyR least s.1 s.2).2.1 := by
  unfold mnyR at h ⊢
  split at h
  · cases h
  · rename_i hc
    rw [if_neg hc]
    obtain ⟨k1, k2, k3, k4⟩ := num_bwd s hb h
    exact ⟨k1, k2, by omega, k3.2, k4⟩
end Go.Proofs.Ytihiapjfdgoomaa.A
namespace Go.Proofs.Ytihiapjfdgoomaa.A
open Go.RowKit Go.Proofs.YtihiapjfdgoomaaW.PrintWords Go.Proofs.YtihiapjfdgoomaaW.PrintLast Go.Proofs.YtihiapjfdgoomaaW.PrintMore
open Go.Proofs.Ytihiapjfdgoomaa.P
set_option linter.unusedVariables false
set_option linter.unusedSimpArgs false

theorem nvE {n : Int} (rest : List Int) (h : inR n) : nv (be8 n ++ rest, false) = n := (num_fwd n rest h).1
theorem nsE {n : Int} (rest : List Int) (h : inR n) : ns (be8 n ++ rest, false) = (rest, false) := (num_fwd n rest h).2
theorem bvE (t : Bool) (rest : List Int) : bv (trB t ++ rest, false) = t := (tr_fwd t rest).1
theorem bsE (t : Bool) (rest : List Int) : bs (trB t ++ rest, false) = (rest, false) := (tr_fwd t rest).2
theorem tvE {s : ByteArray} (rest : List Int) (h : (s.size : Int) < 9223372036854775808) : tv (txB s ++ rest, false) = s := (tx_fwd s rest h).1
theorem tsE {s : ByteArray} (rest : List Int) (h : (s.size : Int) < 9223372036854775808) : ts (txB s ++ rest, false) = (rest, false) := (tx_fwd s rest h).2

/-! ### Boxes -/
def okB (b : S50) : Prop := inR b.f0 ∧ inR b.f1 ∧ (b.f2.size : Int) < 9223372036854775808 ∧ inR b.f3 ∧ inR b.f4 ∧ inR b.f5 ∧ inR b.f6 ∧ inR b.f7 ∧ inR b.f8 ∧ inR b.f9
theorem bxB_eq (b : S50) (rest : List Int) : bxB b ++ rest = be8 b.f0 ++ (be8 b.f1 ++ (txB b.f2 ++ (be8 b.f3 ++ (be8 b.f4 ++ (be8 b.f5 ++ (be8 b.f6 ++ (be8 b.f7 ++ (be8 b.f8 ++ (be8 b.f9 ++ rest))))))))) := by
  simp only [bxB, boxBytes, txB, List.append_assoc]
theorem box_fwd (b : S50) (rest : List Int) (h : okB b) : bxV (bxB b ++ rest, false) = b ∧ bxS (bxB b ++ rest, false) = (rest, false) := by
  obtain ⟨h0, h1, h2, h3, h4, h5, h6, h7, h8, h9⟩ := h
  rw [bxB_eq]
  unfold bxV bxS bxS3
  simp only [nvE _ h0, nsE _ h0, nvE _ h1, nsE _ h1, tvE _ h2, tsE _ h2, nvE _ h3, nsE _ h3, nvE _ h4, nsE _ h4, nvE _ h5, nsE _ h5, nvE _ h6, nsE _ h6, nvE _ h7, nsE _ h7, nvE _ h8, nsE _ h8, nvE _ h9, nsE _ h9]
  exact ⟨trivial, trivial⟩
theorem box_bwd (s : St) (hb : byt s.1) (h : (bxS s).2 = false) : s.2 = false ∧ s.1 = bxB (bxV s) ++ (bxS s).1 ∧ okB (bxV s) ∧ byt (bxS s).1 ∧ 72 ≤ (bxB (bxV s)).length := by
  have key : ∀ t0 t1 t2 t3 t4 t5 t6 t7 t8 t9 t10 : St, t0 = s → t1 = ns t0 → t2 = ns t1 → t3 = ts t2 → t4 = ns t3 → t5 = ns t4 → t6 = ns t5 → t7 = ns t6 → t8 = ns t7 → t9 = ns t8 → t10 = ns t9 → byt t0.1 → t10.2 = false →
      t0.2 = false ∧ t0.1 = bxB ⟨nv t0, nv t1, tv t2, nv t3, nv t4, nv t5, nv t6, nv t7, nv t8, nv t9⟩ ++ t10.1 ∧ okB ⟨nv t0, nv t1, tv t2, nv t3, nv t4, nv t5, nv t6, nv t7, nv t8, nv t9⟩ ∧ byt t10.1 := by
    intro t0 t1 t2 t3 t4 t5 t6 t7 t8 t9 t10 _ e1 e2 e3 e4 e5 e6 e7 e8 e9 e10 hb0 h10
    have L : ∀ (a b : St), b = ns a → (byt a.1 → b.2 = false → a.2 = false ∧ a.1 = be8 (nv a) ++ b.1 ∧ inR (nv a) ∧ byt b.1) := by
      rintro a b rfl h1 h2; exact num_bwd a h1 h2
    have LT : byt t2.1 → t3.2 = false → t2.2 = false ∧ t2.1 = txB (tv t2) ++ t3.1 ∧ ((tv t2).size : Int) < 9223372036854775808 ∧ byt t3.1 := by
      subst e3; exact tx_bwd t2
    -- bad is never taken back
    have S : ∀ (a b : St), b = ns a → b.2 = false → a.2 = false := by
      rintro a b rfl h2; exact (tk_bwd (n := 8) (l := a.1) (bad := a.2) h2).1
    have ST : t3.2 = false → t2.2 = false := by
      intro h2
      rw [e3] at h2
      exact (tk_bwd (n := 8) (l := t2.1) (bad := t2.2) (tk_bwd h2).1).1
    have h9 := S _ _ e10 h10
    have h8 := S _ _ e9 h9
    have h7 := S _ _ e8 h8
    have h6 := S _ _ e7 h7
    have h5 := S _ _ e6 h6
    have h4 := S _ _ e5 h5
    have h3 := S _ _ e4 h4
    have h2 := ST h3
    have h1 := S _ _ e2 h2
    obtain ⟨a0, b0, c0, d0⟩ := L _ _ e1 hb0 h1
    obtain ⟨a1, b1, c1, d1⟩ := L _ _ e2 d0 h2
    obtain ⟨a2, b2, c2, d2⟩ := LT d1 h3
    obtain ⟨a3, b3, c3, d3⟩ := L _ _ e4 d2 h4
    obtain ⟨a4, b4, c4, d4⟩ := L _ _ e5 d3 h5
    obtain ⟨a5, b5, c5, d5⟩ := L _ _ e6 d4 h6
    obtain ⟨a6, b6, c6, d6⟩ := L _ _ e7 d5 h7
    obtain ⟨a7, b7, c7, d7⟩ := L _ _ e8 d6 h8
    obtain ⟨a8, b8, c8, d8⟩ := L _ _ e9 d7 h9
    obtain ⟨a9, b9, c9, d9⟩ := L _ _ e10 d8 h10
    refine ⟨a0, ?_, ⟨c0, c1, c2, c3, c4, c5, c6, c7, c8, c9⟩, d9⟩
    rw [bxB_eq, ← b9, ← b8, ← b7, ← b6, ← b5, ← b4, ← b3, ← b2, ← b1, ← b0]
  obtain ⟨k1, k2, k3, k4⟩ := key s _ _ _ _ _ _ _ _ _ _ rfl rfl rfl rfl rfl rfl rfl rfl rfl rfl rfl hb h
  exact ⟨k1, k2, k3, k4, by rw [bxB_length]; omega⟩
theorem bxs_fwd : ∀ (l : List S50) (rest : List Int), (∀ b ∈ l, okB b) → bxsR l.length (bxsB l ++ rest, false) = (l, (rest, false))
  | [], rest, _ => rfl
  | b :: l, rest, h => by
    have e := box_fwd b (bxsB l ++ rest) (h b List.mem_cons_self)
    have e0 : bxsB (b :: l) ++ rest = bxB b ++ (bxsB l ++ rest) := by simp [bxsB]
    have ih := bxs_fwd l rest (fun x hx => h x (List.mem_cons_of_mem _ hx))
    rw [e0]
    simp only [List.length_cons, bxsR, Bool.false_eq_true, if_false]
    rw [e.1, e.2, ih]
theorem bxs_bwd : ∀ (n : Nat) (s : St), byt s.1 → (bxsR n s).2.2 = false → s.2 = false ∧ s.1 = bxsB (bxsR n s).1 ++ (bxsR n s).2.1 ∧ (∀ b ∈ (bxsR n s).1, okB b) ∧ byt (bxsR n s).2.1 ∧ (bxsR n s).1.length = n
  | 0, s, hb, h => ⟨h, rfl, (fun b hb => nomatch hb), hb, rfl⟩
  | n + 1, s, hb, h => by
    unfold bxsR at h ⊢
    split at h
    · rename_i h2; rw [h2] at h; cases h
    · rename_i h2
      rw [if_neg h2]
      simp only at h ⊢
      have h2' : s.2 = false := by simpa using h2
      cases hx : (bxS s).2 with
      | true =>
        exfalso
        have : (bxsR n (bxS s)).2.2 = true := by cases n <;> simp [bxsR, hx]
        rw [this] at h; cases h
      | false =>
        obtain ⟨k1, k2, k3, k4, k5⟩ := box_bwd s hb hx
        obtain ⟨j1, j2, j3, j4, j5⟩ := bxs_bwd n (bxS s) k4 h
        refine ⟨k1, ?_, ?_, j4, by simp [j5]⟩
        · conv => lhs; rw [k2, j2]
          simp [bxsB]
        · intro b hb
          rcases List.mem_cons.1 hb with rfl | hb
          · exact k3
          · exact j3 b hb

/-! ### Rows -/
theorem flat_le {α : Type} (f : α → List Int) (c : Nat) (h : ∀ x, c ≤ (f x).length) (l : List α) : l.length * c ≤ (l.flatMap f).length := by
  induction l with
  | nil => simp
  | cons x l ih => have := h x; simp only [List.flatMap_cons, List.length_append, List.length_cons, Nat.succ_mul]; omega
def okR (r : S48) : Prop := inR r.f0 ∧ (r.f3.length : Int) < 9223372036854775808 ∧ ∀ b ∈ r.f3, okB b
theorem rwB_eq (r : S48) (rest : List Int) : rwB r ++ rest = be8 r.f0 ++ (trB r.f1 ++ (trB r.f2 ++ (be8 r.f3.length ++ (bxsB r.f3 ++ rest)))) := by
  simp only [rwB, List.append_assoc]
theorem row_fwd (r : S48) (rest : List Int) (h : okR r) : rwV (rwB r ++ rest, false) = r ∧ rwE (rwB r ++ rest, false) = (rest, false) := by
  obtain ⟨h0, h1, h2⟩ := h
  have hm : mnyR 72 (be8 r.f3.length ++ (bxsB r.f3 ++ rest)) false = ((r.f3.length : Int), bxsB r.f3 ++ rest, false) := by
    refine mn_fwd 72 (by omega) _ _ ?_ h1
    have := flat_le bxB 72 (fun b => by rw [bxB_length]; omega) r.f3
    simp only [List.length_append, bxsB]
    omega
  have hS : rwS (rwB r ++ rest, false) = (be8 r.f3.length ++ (bxsB r.f3 ++ rest), false) := by
    rw [rwB_eq]
    unfold rwS
    simp only [nsE _ h0, bsE]
  have hM : rwM (rwB r ++ rest, false) = ((r.f3.length : Int), bxsB r.f3 ++ rest, false) := by unfold rwM; rw [hS]; exact hm
  have hx := bxs_fwd r.f3 rest h2
  unfold rwV rwE
  rw [hM]
  simp only [Int.toNat_natCast, hx]
  rw [rwB_eq]
  simp only [nvE _ h0, nsE _ h0, bsE, bvE]
  exact ⟨trivial, trivial⟩
theorem row_bwd (s : St) (hb : byt s.1) (h : (rwE s).2 = false) : s.2 = false ∧ s.1 = rwB (rwV s) ++ (rwE s).1 ∧ okR (rwV s) ∧ byt (rwE s).1 ∧ 18 ≤ (rwB (rwV s)).length := by
  have key : ∀ (t1 t2 t3 : St) (m : Int × St), t1 = ns s → t2 = bs t1 → t3 = bs t2 → m = mnyR 72 t3.1 t3.2 → (bxsR m.1.toNat m.2).2.2 = false →
      s.2 = false ∧ s.1 = rwB ⟨nv s, bv t1, bv t2, (bxsR m.1.toNat m.2).1⟩ ++ (bxsR m.1.toNat m.2).2.1 ∧ okR ⟨nv s, bv t1, bv t2, (bxsR m.1.toNat m.2).1⟩ ∧ byt (bxsR m.1.toNat m.2).2.1 := by
    intro t1 t2 t3 m e1 e2 e3 em h
    have B1 : ∀ n s, (bxsR n s).2.2 = false → s.2 = false := by
      intro n s h
      cases n with
      | zero => exact h
      | succ n => cases hs : s.2 with
        | false => rfl
        | true => simp [bxsR, hs] at h
    have hm := B1 _ _ h
    have TS : ∀ (a b : St), b = bs a → b.2 = false → a.2 = false := by
      rintro a b rfl h2
      unfold bs truR at h2
      split at h2
      · exact (tk_bwd (n := 1) (l := a.1) (bad := a.2) h2).1
      · simp only [Bool.or_eq_false_iff] at h2
        exact (tk_bwd (n := 1) (l := a.1) (bad := a.2) h2.1).1
    have MS : m.2.2 = false → t3.2 = false := by
      intro h2
      rw [em] at h2
      unfold mnyR at h2
      split at h2
      · cases h2
      · exact (tk_bwd (n := 8) (l := t3.1) (bad := t3.2) h2).1
    have h3 := MS hm
    have h2 := TS _ _ e3 h3
    have h1 := TS _ _ e2 h2
    obtain ⟨a0, b0, c0, d0⟩ := num_bwd s hb (by rw [← e1]; exact h1)
    rw [← e1] at b0 d0
    obtain ⟨a1, b1, d1⟩ := tr_bwd t1 d0 (by rw [← e2]; exact h2)
    rw [← e2] at b1 d1
    obtain ⟨a2, b2, d2⟩ := tr_bwd t2 d1 (by rw [← e3]; exact h3)
    rw [← e3] at b2 d2
    obtain ⟨a3, b3, c3, c3', d3⟩ := mn_bwd 72 t3 d2 (by rw [← em]; exact hm)
    rw [← em] at b3 c3 c3' d3
    obtain ⟨a4, b4, c4, d4, e4⟩ := bxs_bwd m.1.toNat m.2 d3 h
    have e5 : (((bxsR m.1.toNat m.2).1.length : Nat) : Int) = m.1 := by rw [e4]; omega
    refine ⟨a0, ?_, ⟨c0, by simp only; rw [e5]; exact c3', c4⟩, d4⟩
    rw [rwB_eq]
    simp only [e5]
    rw [← b4, ← b3, ← b2, ← b1, ← b0]
  obtain ⟨k1, k2, k3, k4⟩ := key _ _ _ _ rfl rfl rfl rfl h
  exact ⟨k1, k2, k3, k4, by rw [rwB_length]; omega⟩
theorem rws_fwd : ∀ (l : List S48) (rest : List Int), (∀ b ∈ l, okR b) → rwsR l.length (rwsB l ++ rest, false) = (l, (rest, false))
  | [], rest, _ => rfl
  | b :: l, rest, h => by
    have e := row_fwd b (rwsB l ++ rest) (h b List.mem_cons_self)
    have e0 : rwsB (b :: l) ++ rest = rwB b ++ (rwsB l ++ rest) := by simp [rwsB]
    have ih := rws_fwd l rest (fun x hx => h x (List.mem_cons_of_mem _ hx))
    rw [e0]
    simp only [List.length_cons, rwsR, Bool.false_eq_true, if_false]
    rw [e.1, e.2, ih]
theorem rws_bwd : ∀ (n : Nat) (s : St), byt s.1 → (rwsR n s).2.2 = false → s.2 = false ∧ s.1 = rwsB (rwsR n s).1 ++ (rwsR n s).2.1 ∧ (∀ b ∈ (rwsR n s).1, okR b) ∧ byt (rwsR n s).2.1 ∧ (rwsR n s).1.length = n
  | 0, s, hb, h => ⟨h, rfl, (fun b hb => nomatch hb), hb, rfl⟩
  | n + 1, s, hb, h => by
    unfold rwsR at h ⊢
    split at h
    · rename_i h2; rw [h2] at h; cases h
    · rename_i h2
      rw [if_neg h2]
      simp only at h ⊢
      have h2' : s.2 = false := by simpa using h2
      cases hx : (rwE s).2 with
      | true =>
        exfalso
        have : (rwsR n (rwE s)).2.2 = true := by cases n <;> simp [rwsR, hx]
        rw [this] at h; cases h
      | false =>
        obtain ⟨k1, k2, k3, k4, k5⟩ := row_bwd s hb hx
        obtain ⟨j1, j2, j3, j4, j5⟩ := rws_bwd n (rwE s) k4 h
        refine ⟨k1, ?_, ?_, j4, by simp [j5]⟩
        · conv => lhs; rw [k2, j2]
          simp [rwsB]
        · intro b hb
          rcases List.mem_cons.1 hb with rfl | hb
          · exact k3
          · exact j3 b hb
end Go.Proofs.Ytihiapjfdgoomaa.A
namespace Go.Proofs.Ytihiapjfdgoomaa.A
open Go.RowKit Go.Proofs.YtihiapjfdgoomaaW.PrintWords Go.Proofs.YtihiapjfdgoomaaW.PrintLast Go.Proofs.YtihiapjfdgoomaaW.PrintMore
open Go.Proofs.Ytihiapjfdgoomaa.P
set_option linter.unusedVariables false
set_option linter.unusedSimpArgs false

def okP (p : S45) : Prop := inR p.f0 ∧ inR p.f1 ∧ (p.f3.length : Int) < 9223372036854775808 ∧ ∀ b ∈ p.f3, okR b
theorem pgB_eq (p : S45) (rest : List Int) : pgB p ++ rest = be8 p.f0 ++ (be8 p.f1 ++ (trB p.f2 ++ (be8 p.f3.length ++ (rwsB p.f3 ++ rest)))) := by
  simp only [pgB, List.append_assoc]
theorem page_fwd (p : S45) (rest : List Int) (h : okP p) : pgV (pgB p ++ rest, false) = p ∧ pgE (pgB p ++ rest, false) = (rest, false) := by
  obtain ⟨h0, h1, h2, h3⟩ := h
  have hm : mnyR 18 (be8 p.f3.length ++ (rwsB p.f3 ++ rest)) false = ((p.f3.length : Int), rwsB p.f3 ++ rest, false) := by
    refine mn_fwd 18 (by omega) _ _ ?_ h2
    have := flat_le rwB 18 (fun b => by rw [rwB_length]; omega) p.f3
    simp only [List.length_append, rwsB]
    omega
  have hS : pgS (pgB p ++ rest, false) = (be8 p.f3.length ++ (rwsB p.f3 ++ rest), false) := by
    rw [pgB_eq]
    unfold pgS
    simp only [nsE _ h0, nsE _ h1, bsE]
  have hM : pgM (pgB p ++ rest, false) = ((p.f3.length : Int), rwsB p.f3 ++ rest, false) := by unfold pgM; rw [hS]; exact hm
  have hx := rws_fwd p.f3 rest h3
  unfold pgV pgE
  rw [hM]
  simp only [Int.toNat_natCast, hx]
  rw [pgB_eq]
  simp only [nvE _ h0, nsE _ h0, nvE _ h1, nsE _ h1, bsE, bvE]
  exact ⟨trivial, trivial⟩
theorem page_bwd (s : St) (hb : byt s.1) (h : (pgE s).2 = false) : s.2 = false ∧ s.1 = pgB (pgV s) ++ (pgE s).1 ∧ okP (pgV s) ∧ byt (pgE s).1 ∧ 25 ≤ (pgB (pgV s)).length := by
  have key : ∀ (t1 t2 t3 : St) (m : Int × St), t1 = ns s → t2 = ns t1 → t3 = bs t2 → m = mnyR 18 t3.1 t3.2 → (rwsR m.1.toNat m.2).2.2 = false →
      s.2 = false ∧ s.1 = pgB ⟨nv s, nv t1, bv t2, (rwsR m.1.toNat m.2).1⟩ ++ (rwsR m.1.toNat m.2).2.1 ∧ okP ⟨nv s, nv t1, bv t2, (rwsR m.1.toNat m.2).1⟩ ∧ byt (rwsR m.1.toNat m.2).2.1 := by
    intro t1 t2 t3 m e1 e2 e3 em h
    have B1 : ∀ n s, (rwsR n s).2.2 = false → s.2 = false := by
      intro n s h
      cases n with
      | zero => exact h
      | succ n => cases hs : s.2 with
        | false => rfl
        | true => simp [rwsR, hs] at h
    have hm := B1 _ _ h
    have TS : ∀ (a b : St), b = bs a → b.2 = false → a.2 = false := by
      rintro a b rfl h2
      unfold bs truR at h2
      split at h2
      · exact (tk_bwd (n := 1) (l := a.1) (bad := a.2) h2).1
      · simp only [Bool.or_eq_false_iff] at h2
        exact (tk_bwd (n := 1) (l := a.1) (bad := a.2) h2.1).1
    have S : ∀ (a b : St), b = ns a → b.2 = false → a.2 = false := by
      rintro a b rfl h2; exact (tk_bwd (n := 8) (l := a.1) (bad := a.2) h2).1
    have MS : m.2.2 = false → t3.2 = false := by
      intro h2
      rw [em] at h2
      unfold mnyR at h2
      split at h2
      · cases h2
      · exact (tk_bwd (n := 8) (l := t3.1) (bad := t3.2) h2).1
    have h3 := MS hm
    have h2 := TS _ _ e3 h3
    have h1 := S _ _ e2 h2
    obtain ⟨a0, b0, c0, d0⟩ := num_bwd s hb (by rw [← e1]; exact h1)
    rw [← e1] at b0 d0
    obtain ⟨a1, b1, c1, d1⟩ := num_bwd t1 d0 (by rw [← e2]; exact h2)
    rw [← e2] at b1 d1
    obtain ⟨a2, b2, d2⟩ := tr_bwd t2 d1 (by rw [← e3]; exact h3)
    rw [← e3] at b2 d2
    obtain ⟨a3, b3, c3, c3', d3⟩ := mn_bwd 18 t3 d2 (by rw [← em]; exact hm)
    rw [← em] at b3 c3 c3' d3
    obtain ⟨a4, b4, c4, d4, e4⟩ := rws_bwd m.1.toNat m.2 d3 h
    have e5 : (((rwsR m.1.toNat m.2).1.length : Nat) : Int) = m.1 := by rw [e4]; omega
    refine ⟨a0, ?_, ⟨c0, c1, by simp only; rw [e5]; exact c3', c4⟩, d4⟩
    rw [pgB_eq]
    simp only [e5]
    rw [← b4, ← b3, ← b2, ← b1, ← b0]
  obtain ⟨k1, k2, k3, k4⟩ := key _ _ _ _ rfl rfl rfl rfl h
  exact ⟨k1, k2, k3, k4, by rw [pgB_length]; omega⟩
theorem pgs_fwd : ∀ (l : List S45) (rest : List Int), (∀ b ∈ l, okP b) → pgsR l.length (pgsB l ++ rest, false) = (l, (rest, false))
  | [], rest, _ => rfl
  | b :: l, rest, h => by
    have e := page_fwd b (pgsB l ++ rest) (h b List.mem_cons_self)
    have e0 : pgsB (b :: l) ++ rest = pgB b ++ (pgsB l ++ rest) := by simp [pgsB]
    have ih := pgs_fwd l rest (fun x hx => h x (List.mem_cons_of_mem _ hx))
    rw [e0]
    simp only [List.length_cons, pgsR, Bool.false_eq_true, if_false]
    rw [e.1, e.2, ih]
theorem pgs_bwd : ∀ (n : Nat) (s : St), byt s.1 → (pgsR n s).2.2 = false → s.2 = false ∧ s.1 = pgsB (pgsR n s).1 ++ (pgsR n s).2.1 ∧ (∀ b ∈ (pgsR n s).1, okP b) ∧ byt (pgsR n s).2.1 ∧ (pgsR n s).1.length = n
  | 0, s, hb, h => ⟨h, rfl, (fun b hb => nomatch hb), hb, rfl⟩
  | n + 1, s, hb, h => by
    unfold pgsR at h ⊢
    split at h
    · rename_i h2; rw [h2] at h; cases h
    · rename_i h2
      rw [if_neg h2]
      simp only at h ⊢
      have h2' : s.2 = false := by simpa using h2
      cases hx : (pgE s).2 with
      | true =>
        exfalso
        have : (pgsR n (pgE s)).2.2 = true := by cases n <;> simp [pgsR, hx]
        rw [this] at h; cases h
      | false =>
        obtain ⟨k1, k2, k3, k4, k5⟩ := page_bwd s hb hx
        obtain ⟨j1, j2, j3, j4, j5⟩ := pgs_bwd n (pgE s) k4 h
        refine ⟨k1, ?_, ?_, j4, by simp [j5]⟩
        · conv => lhs; rw [k2, j2]
          simp [pgsB]
        · intro b hb
          rcases List.mem_cons.1 hb with rfl | hb
          · exact k3
          · exact j3 b hb

/-! ### The whole body behind the mark -/
def inner (a0 a1 a2 a3 : Int) (l : List S45) : List Int := be8 a0 ++ (be8 a1 ++ (be8 a2 ++ (be8 a3 ++ (be8 l.length ++ pgsB l))))
theorem bodyB_eq (a0 a1 a2 a3 : Int) (l : List S45) : bodyB a0 a1 a2 a3 l = markB ++ inner a0 a1 a2 a3 l := by simp [bodyB, headB, inner]
def okA (a0 a1 a2 a3 : Int) (l : List S45) : Prop := inR a0 ∧ inR a1 ∧ inR a2 ∧ inR a3 ∧ (l.length : Int) < 9223372036854775808 ∧ ∀ p ∈ l, okP p
/-- What reading such bytes comes to. -/
theorem body_fwd (a0 a1 a2 a3 : Int) (l : List S45) (rest : List Int) (h : okA a0 a1 a2 a3 l) (s : St) (hs : s = (inner a0 a1 a2 a3 l ++ rest, false)) :
    nv s = a0 ∧ nv (ns s) = a1 ∧ nv (ns (ns s)) = a2 ∧ nv (ns (ns (ns s))) = a3 ∧
    (mnyR 25 (ns (ns (ns (ns s)))).1 (ns (ns (ns (ns s)))).2) = ((l.length : Int), pgsB l ++ rest, false) ∧ pgsR l.length (pgsB l ++ rest, false) = (l, rest, false) := by
  obtain ⟨h0, h1, h2, h3, h4, h5⟩ := h
  have e : inner a0 a1 a2 a3 l ++ rest = be8 a0 ++ (be8 a1 ++ (be8 a2 ++ (be8 a3 ++ (be8 l.length ++ (pgsB l ++ rest))))) := by simp [inner]
  rw [e] at hs
  subst hs
  simp only [nvE _ h0, nsE _ h0, nvE _ h1, nsE _ h1, nvE _ h2, nsE _ h2, nvE _ h3, nsE _ h3]
  refine ⟨trivial, trivial, trivial, trivial, ?_, pgs_fwd l rest h5⟩
  refine mn_fwd 25 (by omega) _ _ ?_ h4
  have := flat_le pgB 25 (fun b => by rw [pgB_length]; omega) l
  simp only [List.length_append, pgsB]
  omega
theorem body_bwd (s : St) (hb : byt s.1) (m : Int × St) (em : m = mnyR 25 (ns (ns (ns (ns s)))).1 (ns (ns (ns (ns s)))).2) (h : (pgsR m.1.toNat m.2).2.2 = false) :
    s.2 = false ∧ s.1 = inner (nv s) (nv (ns s)) (nv (ns (ns s))) (nv (ns (ns (ns s)))) (pgsR m.1.toNat m.2).1 ++ (pgsR m.1.toNat m.2).2.1 ∧
    okA (nv s) (nv (ns s)) (nv (ns (ns s))) (nv (ns (ns (ns s)))) (pgsR m.1.toNat m.2).1 := by
  have key : ∀ (t1 t2 t3 t4 : St), t1 = ns s → t2 = ns t1 → t3 = ns t2 → t4 = ns t3 → m = mnyR 25 t4.1 t4.2 →
      s.2 = false ∧ s.1 = inner (nv s) (nv t1) (nv t2) (nv t3) (pgsR m.1.toNat m.2).1 ++ (pgsR m.1.toNat m.2).2.1 ∧ okA (nv s) (nv t1) (nv t2) (nv t3) (pgsR m.1.toNat m.2).1 := by
    intro t1 t2 t3 t4 e1 e2 e3 e4 em
    have B1 : ∀ n s, (pgsR n s).2.2 = false → s.2 = false := by
      intro n s h
      cases n with
      | zero => exact h
      | succ n => cases hs : s.2 with
        | false => rfl
        | true => simp [pgsR, hs] at h
    have hm := B1 _ _ h
    have S : ∀ (a b : St), b = ns a → b.2 = false → a.2 = false := by
      rintro a b rfl h2; exact (tk_bwd (n := 8) (l := a.1) (bad := a.2) h2).1
    have MS : m.2.2 = false → t4.2 = false := by
      intro h2
      rw [em] at h2
      unfold mnyR at h2
      split at h2
      · cases h2
      · exact (tk_bwd (n := 8) (l := t4.1) (bad := t4.2) h2).1
    have h4 := MS hm
    have h3 := S _ _ e4 h4
    have h2 := S _ _ e3 h3
    have h1 := S _ _ e2 h2
    obtain ⟨a0, b0, c0, d0⟩ := num_bwd s hb (by rw [← e1]; exact h1)
    rw [← e1] at b0 d0
    obtain ⟨a1, b1, c1, d1⟩ := num_bwd t1 d0 (by rw [← e2]; exact h2)
    rw [← e2] at b1 d1
    obtain ⟨a2, b2, c2, d2⟩ := num_bwd t2 d1 (by rw [← e3]; exact h3)
    rw [← e3] at b2 d2
    obtain ⟨a3, b3, c3, d3⟩ := num_bwd t3 d2 (by rw [← e4]; exact h4)
    rw [← e4] at b3 d3
    obtain ⟨a4, b4, c4, c4', d4⟩ := mn_bwd 25 t4 d3 (by rw [← em]; exact hm)
    rw [← em] at b4 c4 c4' d4
    obtain ⟨a5, b5, c5, d5, e5⟩ := pgs_bwd m.1.toNat m.2 d4 h
    have e6 : (((pgsR m.1.toNat m.2).1.length : Nat) : Int) = m.1 := by rw [e5]; omega
    refine ⟨a0, ?_, ⟨c0, c1, c2, c3, by rw [e6]; exact c4', c5⟩⟩
    unfold inner
    simp only [List.append_assoc, e6]
    rw [← b5, ← b4, ← b3, ← b2, ← b1, ← b0]
  exact key _ _ _ _ rfl rfl rfl rfl em

/-! ### There and back -/
theorem byt_trB (t : Bool) : byt (trB t) := fun x hx => by
  simp only [trB, List.mem_singleton] at hx
  subst hx
  cases t <;> simp
theorem byt_flat {α : Type} (f : α → List Int) (h : ∀ x, byt (f x)) (l : List α) : byt (l.flatMap f) := fun x hx => by
  obtain ⟨a, _, ha⟩ := List.mem_flatMap.1 hx
  exact h a x ha
theorem byt_bxB (b : S50) : byt (bxB b) := by
  have h := bxB_eq b []
  rw [List.append_nil] at h
  rw [h]
  repeat (first | exact byt_be8 _ | refine byt_app (byt_be8 _) ?_ | refine byt_app (byt_app (byt_be8 _) (byt_bytesOf _)) ?_ | exact fun x hx => nomatch hx)
theorem byt_rwB (r : S48) : byt (rwB r) := byt_app (byt_be8 _) (byt_app (byt_trB _) (byt_app (byt_trB _) (byt_app (byt_be8 _) (byt_flat bxB byt_bxB _))))
theorem byt_pgB (p : S45) : byt (pgB p) := byt_app (byt_be8 _) (byt_app (byt_be8 _) (byt_app (byt_trB _) (byt_app (byt_be8 _) (byt_flat rwB byt_rwB _))))
theorem byt_inner (a0 a1 a2 a3 : Int) (l : List S45) : byt (inner a0 a1 a2 a3 l) :=
  byt_app (byt_be8 _) (byt_app (byt_be8 _) (byt_app (byt_be8 _) (byt_app (byt_be8 _) (byt_app (byt_be8 _) (byt_flat pgB byt_pgB _)))))
theorem byt_markB : byt markB := by
  intro x hx
  simp only [markB, List.mem_cons, List.not_mem_nil, or_false] at hx
  omega
theorem byt_bodyB (a0 a1 a2 a3 : Int) (l : List S45) : byt (bodyB a0 a1 a2 a3 l) := by rw [bodyB_eq]; exact byt_app byt_markB (byt_inner _ _ _ _ _)

theorem putB_length (a0 a1 a2 a3 : Int) (l : List S45) : (putB a0 a1 a2 a3 l).length = (bodyB a0 a1 a2 a3 l).length + 8 := by simp [putB, be8_length]
theorem bodyB_length (a0 a1 a2 a3 : Int) (l : List S45) : (bodyB a0 a1 a2 a3 l).length = 48 + (pgsB l).length := by simp only [bodyB, List.length_append, headB_length]
theorem markB_bytes : markB = bytesOf ⟨#[112, 108, 97, 116, 101, 110, 65, 49]⟩ := by decide
theorem markOk_of {b : List Int} (h : b.take 8 = markB) : markOk b = true := by
  unfold markOk
  rw [h]
  kernel_rfl
theorem mark_of {b : List Int} (hb : byt b) (h : markOk b = true) : b.take 8 = markB := by
  unfold markOk at h
  have h1 : byt (b.take 8) := fun x hx => hb x (List.mem_of_mem_take hx)
  have h2 := bytesOf_strOfNums _ h1
  have h3 : (strOfNums (b.take 8)).toList = [112, 108, 97, 116, 101, 110, 65, 49] := by simpa using h
  have h4 : strOfNums (b.take 8) = ⟨#[112, 108, 97, 116, 101, 110, 65, 49]⟩ := by
    have e : (strOfNums (b.take 8)).data.toList = [112, 108, 97, 116, 101, 110, 65, 49] := by rw [← h3]; exact (ByteArray.toList_eq _).symm
    have e2 : (strOfNums (b.take 8)).data = #[112, 108, 97, 116, 101, 110, 65, 49] := Array.ext' e
    exact congrArg ByteArray.mk e2
  rw [← h2, h4]
  exact markB_bytes.symm
/-- What was laid down is read as it was. -/
theorem get_put (a0 a1 a2 a3 : Int) (l : List S45) (h : okA a0 a1 a2 a3 l) (h2 : 0 ≤ a2) (h3 : 0 ≤ a3) (h0 : a0 = 0 ∨ l.length = 0) :
    getF (putB a0 a1 a2 a3 l) = (a0, a1, a2, a3, l, 0) := by
  have hlen := putB_length a0 a1 a2 a3 l
  have hbl := bodyB_length a0 a1 a2 a3 l
  have ht : (putB a0 a1 a2 a3 l).take ((putB a0 a1 a2 a3 l).length - 8) = bodyB a0 a1 a2 a3 l := by
    rw [hlen, Nat.add_sub_cancel]; unfold putB; simp
  have hd : (putB a0 a1 a2 a3 l).drop ((putB a0 a1 a2 a3 l).length - 8) = be8 (wrap64 (fnvs (bodyB a0 a1 a2 a3 l))) := by
    rw [hlen, Nat.add_sub_cancel]; unfold putB; simp
  have hg : g0 (putB a0 a1 a2 a3 l) = (inner a0 a1 a2 a3 l ++ [], false) := by
    unfold g0; rw [ht, bodyB_eq]; simp [markB]
  obtain ⟨e0, e1, e2, e3, e4, e5⟩ := body_fwd a0 a1 a2 a3 l [] h _ hg
  have hM : gM (putB a0 a1 a2 a3 l) = ((l.length : Int), pgsB l ++ [], false) := e4
  have hP : gP (putB a0 a1 a2 a3 l) = l := by unfold gP; rw [hM]; simp only [Int.toNat_natCast]; rw [e5]
  have hE : gE (putB a0 a1 a2 a3 l) = ([], false) := by unfold gE; rw [hM]; simp only [Int.toNat_natCast]; rw [e5]
  rw [getF_yes]
  · rw [e0, e1, e2, e3, hP]
  · refine ⟨by omega, markOk_of (by unfold putB; rw [bodyB_eq]; simp [markB]), ?_, ?_⟩
    · unfold sumOk
      rw [ht, hd]
      have := (num_fwd _ [] (inR_wrap (fnvs (bodyB a0 a1 a2 a3 l)))).1
      rw [List.append_nil] at this
      unfold nv at this
      simp only at this
      rw [this]
      simp
    · unfold gOk
      rw [hE, hP, e0, e2, e3]
      have d2 : decide (a2 < 0) = false := by simpa using h2
      have d3 : decide (a3 < 0) = false := by simpa using h3
      rw [d2, d3]
      rcases h0 with rfl | h0
      · simp
      · simp [h0]
/-- What is read well is what would be laid down. -/
theorem put_get {b : List Int} (hb : byt b) (h : 56 ≤ b.length ∧ markOk b = true ∧ sumOk b = true ∧ gOk b = true) :
    b = putB (nv (g0 b)) (nv (ns (g0 b))) (nv (ns (ns (g0 b)))) (nv (ns (ns (ns (g0 b))))) (gP b) ∧ okA (nv (g0 b)) (nv (ns (g0 b))) (nv (ns (ns (g0 b)))) (nv (ns (ns (ns (g0 b))))) (gP b) ∧
    0 ≤ nv (ns (ns (g0 b))) ∧ 0 ≤ nv (ns (ns (ns (g0 b)))) ∧ (nv (g0 b) = 0 ∨ (gP b).length = 0) := by
  obtain ⟨h1, h2, h3, h4⟩ := h
  have hm := mark_of hb h2
  unfold gOk at h4
  simp only [Bool.not_eq_true', Bool.or_eq_false_iff, decide_eq_false_iff_not, Bool.and_eq_false_iff] at h4
  obtain ⟨⟨⟨⟨k1, k2⟩, k3⟩, k4⟩, k5⟩ := h4
  have hbt : byt (b.take (b.length - 8)) := fun x hx => hb x (List.mem_of_mem_take hx)
  have hbd : byt (b.drop (b.length - 8)) := fun x hx => hb x (List.mem_of_mem_drop hx)
  have hg0 : byt (g0 b).1 := fun x hx => hbt x (List.mem_of_mem_drop hx)
  obtain ⟨j1, j2, j3⟩ := body_bwd (g0 b) hg0 (gM b) rfl k1
  have hE : (pgsR (gM b).1.toNat (gM b).2).2.1 = [] := by
    have : (gE b).1.length = 0 := by omega
    exact List.eq_nil_of_length_eq_zero this
  rw [hE, List.append_nil] at j2
  have hbody : b.take (b.length - 8) = bodyB (nv (g0 b)) (nv (ns (g0 b))) (nv (ns (ns (g0 b)))) (nv (ns (ns (ns (g0 b))))) (gP b) := by
    rw [bodyB_eq]
    have e : (b.take (b.length - 8)) = (b.take (b.length - 8)).take 8 ++ (b.take (b.length - 8)).drop 8 := (List.take_append_drop 8 _).symm
    rw [e, List.take_take, Nat.min_eq_left (by omega), hm]
    congr 1
  have hsum : b.drop (b.length - 8) = be8 (wrap64 (fnvs (b.take (b.length - 8)))) := by
    unfold sumOk at h3
    have hl : (b.drop (b.length - 8)).length = 8 := by simp; omega
    obtain ⟨q1, q2, q3, q4⟩ := num_bwd (b.drop (b.length - 8), false) hbd (by
      unfold ns numR tk
      rw [if_neg (by simp; omega)])
    have hr : (ns (b.drop (b.length - 8), false)).1 = [] := by
      have := congrArg List.length q2
      simp only [List.length_append, be8_length, hl] at this
      exact List.eq_nil_of_length_eq_zero (by omega)
    rw [hr, List.append_nil] at q2
    have e : nv (b.drop (b.length - 8), false) = wrap64 (fnvs (b.take (b.length - 8))) := by
      show (numR (b.drop (b.length - 8)) false).1 = _
      simpa using h3
    rw [e] at q2
    exact q2
  refine ⟨?_, j3, by omega, by omega, ?_⟩
  · conv => lhs; rw [← List.take_append_drop (b.length - 8) b]
    rw [hsum, hbody]
    rfl
  · rcases k5 with k5 | k5
    · left; simpa using k5
    · right; omega
end Go.Proofs.Ytihiapjfdgoomaa.A
