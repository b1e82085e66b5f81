/- How many bytes what the document's reader has read would take, also where it went wrong; and that it answers as the program does. Contracts of platenref20.Number and platenref20.numbers behind a full row that is no own one. Contracts of the document's layers below Put, behind a row of the call's own. Closed facts for platenlaw20.shown. platenlaw20.shown: it answers true. The contract of the document's Put. The contract of the document's Get. What Get answers: how great it is; and the document's Get by one contract. Appending to a row of one's own: what the row read before, it reads still, by its old header. An answer that is being spoilt: what its walk holds at each depth. Whoever has an answer may spoil it: the contract of spoils. Answers that were read, kept in a list: what their reader holds. -/
import Derived.Test.YtihiapjfdgoomaaR3
import Derived.Test.YtihiapjfdgoomaaR6
import Derived.Test.YtihiapjfdgoomaaR2
import Derived.Test.YtihiapjfdgoomaaR5
import Derived.Lib.SlBytesConst
import Derived.Test.YtihiapjfdgoomaaR1
import Derived.Outline
namespace Go.Proofs.Ytihiapjfdgoomaa.A
open Go.RowKit Go.Proofs.YtihiapjfdgoomaaW.PrintWords Go.Proofs.YtihiapjfdgoomaaW.PrintLast Go.Proofs.YtihiapjfdgoomaaW.PrintMore
open Go.Proofs.Ytihiapjfdgoomaa.P
set_option linter.unusedVariables false
set_option linter.unusedSimpArgs false
section
variable (B : List Int) (hl : B.length ≤ 1099511627776) (hb : byt B)
theorem qs_mono {q : Sq} (h : q.1 ≤ B.length) : q.1 ≤ (qs B q).1 := by unfold qs; split <;> simp only <;> omega
theorem qbs_mono (q : Sq) : q.1 ≤ (qbs B q).1 := by unfold qbs; split <;> simp only <;> omega
theorem qcs_mono (least : Int) {q : Sq} (h : q.1 ≤ B.length) : q.1 ≤ (qcs least B q).1 := by
  unfold qcs; split
  · exact qs_mono B h
  · exact qs_mono B h
theorem strOfNums_size (l : List Int) : (strOfNums l).size = l.length := by
  have := congrArg List.length (strOfNums_data l)
  simpa using this
include hb in
theorem qts_grow {q : Sq} (h : q.1 ≤ B.length) : q.1 + (qt B q).size ≤ (qts B q).1 := by
  have h1 := qs_mono B h
  have hu := qn_u B q hb
  unfold qt qts
  by_cases hc : ((B.length - (qs B q).1 : Nat) : Int) < qn B q
  · rw [if_pos hc, if_pos hc]
    have : ByteArray.size ⟨#[]⟩ = 0 := rfl
    rw [this]; exact h1
  · rw [if_neg hc, if_neg hc, strOfNums_size]
    simp only [List.length_take, List.length_drop]
    omega
include hb in
theorem box_bound {q : Sq} (h : q.1 ≤ B.length) : q.1 + (bxB (qxV B q)).length ≤ (qxE B q).1 + 80 := by
  have h0 := qs_mono B h
  have h1 := qs_mono B (qs_le B q)
  have h2 := qts_grow B hb (q := qs B (qs B q)) (qs_le B _)
  have h3 := qs_mono B (qts_le B (qs B (qs B q)) hb)
  have h4 := qs_mono B (qs_le B (qts B (qs B (qs B q))))
  have h5 := qs_mono B (qs_le B (qs B (qts B (qs B (qs B q)))))
  have h6 := qs_mono B (qs_le B (qs B (qs B (qts B (qs B (qs B q))))))
  have h7 := qs_mono B (qs_le B (qs B (qs B (qs B (qts B (qs B (qs B q)))))))
  have h8 := qs_mono B (qs_le B (qs B (qs B (qs B (qs B (qts B (qs B (qs B q))))))))
  have h9 := qs_mono B (qs_le B (qs B (qs B (qs B (qs B (qs B (qts B (qs B (qs B q)))))))))
  rw [bxB_length]
  unfold qxE qx3
  simp only [qxV]
  omega
include hl hb in
theorem box_exact {q : Sq} (hq : q.1 ≤ B.length) (h : (qxE B q).2 = false) : q.1 + (bxB (qxV B q)).length = (qxE B q).1 := by
  obtain ⟨v, e, h2, h3⟩ := box_sim B hl hb q h
  have k := box_bwd (toS B q) (byt_toS B hb q) (by rw [e]; exact h)
  have k2 := congrArg List.length k.2.1
  rw [v, e] at k2
  have h4 := qxE_le B q
  unfold toS at k2
  simp only [List.length_append, List.length_drop] at k2
  omega
include hl hb in
theorem boxes_bound : ∀ (n : Nat) (q : Sq), q.1 ≤ B.length → q.1 + (bxsB (qxs B n q).1).length ≤ (qxs B n q).2.1 + 80
  | 0, q, h => by unfold qxs bxsB; simp
  | n + 1, q, h => by
    unfold qxs
    split
    · simp [bxsB]
    · have e : bxsB (qxV B q :: (qxs B n (qxE B q)).1) = bxB (qxV B q) ++ bxsB (qxs B n (qxE B q)).1 := by simp [bxsB]
      simp only [e, List.length_append]
      cases hx : (qxE B q).2 with
      | true =>
        have : qxs B n (qxE B q) = ([], qxE B q) := by cases n <;> simp [qxs, hx]
        rw [this]
        have := box_bound B hb h
        simp [bxsB]
        exact this
      | false =>
        have h1 := box_exact B hl hb h hx
        have h2 := boxes_bound n _ (qxE_le B q)
        omega
include hl hb in
theorem row_bound {q : Sq} (h : q.1 ≤ B.length) : q.1 + (rwB (qrV B q)).length ≤ (qrE B q).1 + 98 := by
  have h0 := qs_mono B h
  have h1 := qbs_mono B (qs B q)
  have h2 := qbs_mono B (qbs B (qs B q))
  have hS : (qrS B q).1 ≤ B.length := qbs_le _ _ (qbs_le _ _ (qs_le _ _))
  have h3 := qcs_mono B 80 hS
  rw [rwB_length]
  show q.1 + (18 + (bxsB (qxs B (qc 80 B (qrS B q)).toNat (qcs 80 B (qrS B q))).1).length) ≤ (qxs B (qc 80 B (qrS B q)).toNat (qcs 80 B (qrS B q))).2.1 + 98
  have h4 := boxes_bound B hl hb (qc 80 B (qrS B q)).toNat (qcs 80 B (qrS B q)) (qcs_le _ _ _)
  cases hx : (qcs 80 B (qrS B q)).2 with
  | true =>
    have : ∀ n, qxs B n (qcs 80 B (qrS B q)) = ([], qcs 80 B (qrS B q)) := by intro n; cases n <;> simp [qxs, hx]
    rw [this]
    unfold qrS at h3 ⊢
    simp [bxsB]
    omega
  | false => unfold qrS at h3 h4 ⊢; omega
include hl hb in
theorem row_exact {q : Sq} (hq : q.1 ≤ B.length) (h : (qrE B q).2 = false) : q.1 + (rwB (qrV B q)).length = (qrE B q).1 := by
  obtain ⟨v, e, h2, h3⟩ := row_sim B hl hb q h
  have k := row_bwd (toS B q) (byt_toS B hb q) (by rw [e]; exact h)
  have k2 := congrArg List.length k.2.1
  rw [v, e] at k2
  have h4 := qrE_le B q
  unfold toS at k2
  simp only [List.length_append, List.length_drop] at k2
  omega
include hl hb in
theorem rows_bound : ∀ (n : Nat) (q : Sq), q.1 ≤ B.length → q.1 + (rwsB (qrs B n q).1).length ≤ (qrs B n q).2.1 + 98
  | 0, q, h => by unfold qrs rwsB; simp
  | n + 1, q, h => by
    unfold qrs
    split
    · simp [rwsB]
    · have e : rwsB (qrV B q :: (qrs B n (qrE B q)).1) = rwB (qrV B q) ++ rwsB (qrs B n (qrE B q)).1 := by simp [rwsB]
      simp only [e, List.length_append]
      cases hx : (qrE B q).2 with
      | true =>
        have : qrs B n (qrE B q) = ([], qrE B q) := by cases n <;> simp [qrs, hx]
        rw [this]
        have := row_bound B hl hb h
        simp [rwsB]
        exact this
      | false =>
        have h1 := row_exact B hl hb h hx
        have h2 := rows_bound n _ (qrE_le B q)
        omega
include hl hb in
theorem page_bound {q : Sq} (h : q.1 ≤ B.length) : q.1 + (pgB (qpV B q)).length ≤ (qpE B q).1 + 123 := by
  have h0 := qs_mono B h
  have h1 := qs_mono B (qs_le B q)
  have h2 := qbs_mono B (qs B (qs B q))
  have hS : (qpS B q).1 ≤ B.length := qbs_le _ _ (qs_le _ _)
  have h3 := qcs_mono B 18 hS
  rw [pgB_length]
  show q.1 + (25 + (rwsB (qrs B (qc 18 B (qpS B q)).toNat (qcs 18 B (qpS B q))).1).length) ≤ (qrs B (qc 18 B (qpS B q)).toNat (qcs 18 B (qpS B q))).2.1 + 123
  have h4 := rows_bound B hl hb (qc 18 B (qpS B q)).toNat (qcs 18 B (qpS B q)) (qcs_le _ _ _)
  unfold qpS at h3 h4 ⊢; omega
include hl hb in
theorem page_exact {q : Sq} (hq : q.1 ≤ B.length) (h : (qpE B q).2 = false) : q.1 + (pgB (qpV B q)).length = (qpE B q).1 := by
  obtain ⟨v, e, h2, h3⟩ := page_sim B hl hb q h
  have k := page_bwd (toS B q) (byt_toS B hb q) (by rw [e]; exact h)
  have k2 := congrArg List.length k.2.1
  rw [v, e] at k2
  have h4 := qpE_le B q
  unfold toS at k2
  simp only [List.length_append, List.length_drop] at k2
  omega
include hl hb in
theorem pages_bound : ∀ (n : Nat) (q : Sq), q.1 ≤ B.length → q.1 + (pgsB (qps B n q).1).length ≤ (qps B n q).2.1 + 123
  | 0, q, h => by unfold qps pgsB; simp
  | n + 1, q, h => by
    unfold qps
    split
    · simp [pgsB]
    · have e : pgsB (qpV B q :: (qps B n (qpE B q)).1) = pgB (qpV B q) ++ pgsB (qps B n (qpE B q)).1 := by simp [pgsB]
      simp only [e, List.length_append]
      cases hx : (qpE B q).2 with
      | true =>
        have : qps B n (qpE B q) = ([], qpE B q) := by cases n <;> simp [qps, hx]
        rw [this]
        have := page_bound B hl hb h
        simp [pgsB]
        exact this
      | false =>
        have h1 := page_exact B hl hb h hx
        have h2 := pages_bound n _ (qpE_le B q)
        omega
end
def rB (b : List Int) : List Int := (b.take (b.length - 8)).drop 8
def rS (b : List Int) : Nat → Sq
  | 0 => (0, false)
  | n + 1 => qs (rB b) (rS b n)
def rV (b : List Int) (n : Nat) : Int := qv (rB b) (rS b n)
def rN (b : List Int) : Int := qc 25 (rB b) (rS b 4)
def rM (b : List Int) : Sq := qcs 25 (rB b) (rS b 4)
def rP (b : List Int) : List S45 := (qps (rB b) (rN b).toNat (rM b)).1
def rE (b : List Int) : Sq := (qps (rB b) (rN b).toNat (rM b)).2
def rPut (b : List Int) : Bool := !(decide (rV b 2 < 0) || decide (rV b 3 < 0) || (rV b 0 != 0) && decide (0 < (rP b).length))
def rOk (b : List Int) : Bool := !((rE b).2 || (((rE b).1 : Int) != ((rB b).length : Int)) || !(rPut b))
def rgetF (b : List Int) : Int × Int × Int × Int × List S45 × Int :=
  if 16 ≤ b.length ∧ markOk b = true ∧ rsumOk b = true ∧ rOk b = true then (rV b 0, rV b 1, rV b 2, rV b 3, rP b, 0) else (0, 0, 0, 0, [], 200)
theorem rB_len (b : List Int) : (rB b).length ≤ b.length := by unfold rB; simp; omega
theorem byt_rB {b : List Int} (h : byt b) : byt (rB b) := fun x hx => h x (List.mem_of_mem_take (List.mem_of_mem_drop hx))
theorem rS_le (b : List Int) : ∀ n, (rS b n).1 ≤ (rB b).length
  | 0 => Nat.zero_le _
  | n + 1 => qs_le _ _
theorem rP_bytes {b : List Int} (hl : b.length ≤ 1099511627776) (hb : byt b) : (pgsB (rP b)).length ≤ b.length + 123 := by
  have h1 := pages_bound (rB b) (Nat.le_trans (rB_len b) hl) (byt_rB hb) (rN b).toNat (rM b) (qcs_le _ _ _)
  have h2 := qps_le (rB b) (rN b).toNat (rM b) (qcs_le _ _ _)
  have h3 := rB_len b
  unfold rP
  omega
theorem toS_rS0 (b : List Int) : toS (rB b) (rS b 0) = g0 b := by unfold toS rS g0 rB; simp
theorem qs_eight {B : List Int} {q : Sq} (h : (qs B q).2 = false) : (qs B q).1 = q.1 + 8 := by
  unfold qs at h ⊢
  split
  · rfl
  · rename_i hc; rw [if_neg hc] at h; cases h
theorem qcs_eight {B : List Int} {least : Int} {q : Sq} (h : (qcs least B q).2 = false) : (qcs least B q).1 = q.1 + 8 := by
  unfold qcs at h ⊢
  split
  · rename_i hc; rw [if_pos hc] at h; cases h
  · rename_i hc; rw [if_neg hc] at h; exact qs_eight h
theorem r_eqs {b : List Int} (hl : b.length ≤ 1099511627776) (hb : byt b) (h : (rE b).2 = false) :
    nv (g0 b) = rV b 0 ∧ nv (ns (g0 b)) = rV b 1 ∧ nv (ns (ns (g0 b))) = rV b 2 ∧ nv (ns (ns (ns (g0 b)))) = rV b 3 ∧ gP b = rP b ∧ gE b = toS (rB b) (rE b) ∧ 40 ≤ (rB b).length := by
  have hl' := Nat.le_trans (rB_len b) hl
  have hb' := byt_rB hb
  obtain ⟨p1, p2, p3⟩ := pages_sim (rB b) hl' hb' _ _ h
  obtain ⟨c1, c2, c3⟩ := count_sim (rB b) hl' hb' (least := 25) (least' := 25) (by omega) (by omega) p2
  obtain ⟨v3, e3, h3, k3⟩ := nsim (rB b) (rS b 3) c2
  obtain ⟨v2, e2, h2, k2⟩ := nsim (rB b) (rS b 2) h3
  obtain ⟨v1, e1, h1, k1⟩ := nsim (rB b) (rS b 1) h2
  obtain ⟨v0, e0, h0, k0⟩ := nsim (rB b) (rS b 0) h1
  rw [toS_rS0] at v0 e0
  have f1 : ns (g0 b) = toS (rB b) (rS b 1) := e0
  have f2 : ns (ns (g0 b)) = toS (rB b) (rS b 2) := by rw [f1]; exact e1
  have f3 : ns (ns (ns (g0 b))) = toS (rB b) (rS b 3) := by rw [f2]; exact e2
  have f4 : g4 b = toS (rB b) (rS b 4) := by unfold g4; rw [f3]; exact e3
  have fM : gM b = (rN b, toS (rB b) (rM b)) := by unfold gM; rw [f4]; exact c1
  refine ⟨v0, by rw [f1]; exact v1, by rw [f2]; exact v2, by rw [f3]; exact v3, ?_, ?_, ?_⟩
  · unfold gP; rw [fM]; exact congrArg Prod.fst p1
  · unfold gE; rw [fM]; exact congrArg Prod.snd p1
  · have q0 : (rS b 0).1 = 0 := rfl
    have q1 : (rS b 1).1 = (rS b 0).1 + 8 := qs_eight h1
    have q2 : (rS b 2).1 = (rS b 1).1 + 8 := qs_eight h2
    have q3 : (rS b 3).1 = (rS b 2).1 + 8 := qs_eight h3
    have q4 : (rS b 4).1 = (rS b 3).1 + 8 := qs_eight c2
    have q5 : (rM b).1 = (rS b 4).1 + 8 := qcs_eight p2
    have q6 : (rM b).1 ≤ (rB b).length := qcs_le _ _ _
    omega
theorem r_mis {b : List Int} (hl : b.length ≤ 1099511627776) (hb : byt b) (h : (gE b).2 = false) : (rE b).2 = false := by
  have hl' := Nat.le_trans (rB_len b) hl
  have hb' := byt_rB hb
  have hx : (pgsR (gM b).1.toNat (gM b).2).2.2 = false := h
  have g5 : (mnyR 25 (g4 b).1 (g4 b).2).2.2 = false := pgsR_back hx
  have g4' : (g4 b).2 = false := by
    unfold mnyR at g5
    split at g5
    · cases g5
    · exact nback (s := g4 b) g5
  have g3 := nback (s := ns (ns (ns (g0 b)))) g4'
  have g2 := nback g3
  have g1 := nback g2
  have e0 : g0 b = toS (rB b) (rS b 0) := (toS_rS0 b).symm
  have r1 : (rS b 1).2 = false := num_mis (rB b) (q := rS b 0) (by rw [← e0]; exact g1)
  have e1 : ns (g0 b) = toS (rB b) (rS b 1) := by rw [e0]; exact (nsim (rB b) (rS b 0) r1).2.1
  have r2 : (rS b 2).2 = false := num_mis (rB b) (q := rS b 1) (by rw [← e1]; exact g2)
  have e2 : ns (ns (g0 b)) = toS (rB b) (rS b 2) := by rw [e1]; exact (nsim (rB b) (rS b 1) r2).2.1
  have r3 : (rS b 3).2 = false := num_mis (rB b) (q := rS b 2) (by rw [← e2]; exact g3)
  have e3 : ns (ns (ns (g0 b))) = toS (rB b) (rS b 3) := by rw [e2]; exact (nsim (rB b) (rS b 2) r3).2.1
  have r4 : (rS b 4).2 = false := num_mis (rB b) (q := rS b 3) (by rw [← e3]; exact g4')
  have e4 : g4 b = toS (rB b) (rS b 4) := by unfold g4; rw [e3]; exact (nsim (rB b) (rS b 3) r4).2.1
  have eM : gM b = mnyR 25 (toS (rB b) (rS b 4)).1 (toS (rB b) (rS b 4)).2 := by unfold gM; rw [e4]
  rw [eM] at hx
  rw [e4] at g5
  have k7 := count_mis (rB b) hb' (least := 25) (least' := 25) (by omega) g5 (mny_range 25 (by omega) _).2 (by omega)
  obtain ⟨c1, _, _⟩ := count_sim (rB b) hl' hb' (least' := 25) (by omega) (by omega) k7
  rw [c1] at hx
  exact pages_mis (rB b) hl' hb' _ _ (qcs_le _ _ _) hx
theorem rsum_sum {b : List Int} (hb : byt b) (h16 : 16 ≤ b.length) : rsumOk b = sumOk b := by
  have hd : (b.drop (b.length - 8)).length = 8 := by simp; omega
  have e1 : qn b (b.length - 8, false) = fold8 (b.drop (b.length - 8)) := by
    unfold qn
    rw [if_pos (by simp only; omega), List.take_of_length_le (by simp only [hd]; omega)]
  have e2 : (numR (b.drop (b.length - 8)) false).1 = wrap64 (fold8 (b.drop (b.length - 8))) := by
    have := tk_ok (n := 8) (l := b.drop (b.length - 8)) (by omega)
    unfold numR
    rw [show (8 : Int) = ((8 : Nat) : Int) from rfl, this]
    simp only
    rw [List.take_of_length_le (by omega)]
  have hu := qn_u b (b.length - 8, false) hb
  rw [e1] at hu
  have hf := fnvs_in (b.take (b.length - 8)) 14695981039346656037 fnv0
  unfold rsumOk sumOk
  rw [e1, e2]
  by_cases h : fold8 (b.drop (b.length - 8)) = fnvs (b.take (b.length - 8))
  · rw [h]; simp
  · have h2 : wrap64 (fold8 (b.drop (b.length - 8))) ≠ wrap64 (fnvs (b.take (b.length - 8))) := fun h2 => h (wrap_inj ⟨hu.1, by omega⟩ hf h2)
    rw [beq_eq_false_iff_ne.2 h, beq_eq_false_iff_ne.2 h2]
theorem rget_get {b : List Int} (hl : b.length ≤ 1099511627776) (hb : byt b) : rgetF b = getF b := by
  have hBl : 16 ≤ b.length → (rB b).length = b.length - 16 := fun h => by unfold rB; simp; omega
  by_cases h : 56 ≤ b.length ∧ markOk b = true ∧ sumOk b = true ∧ gOk b = true
  · obtain ⟨h1, h2, h3, h4⟩ := h
    have hgo := h4
    unfold gOk at h4
    simp only [Bool.not_eq_true', Bool.or_eq_false_iff, decide_eq_false_iff_not] at h4
    obtain ⟨⟨⟨⟨k1, k2⟩, k3⟩, k4⟩, k5⟩ := h4
    have r := r_mis hl hb k1
    obtain ⟨v0, v1, v2, v3, vP, vE, v40⟩ := r_eqs hl hb r
    have rle : (rE b).1 ≤ (rB b).length := qps_le _ _ _ (qcs_le _ _ _)
    have hend : (rE b).1 = (rB b).length := by
      rw [vE] at k2
      unfold toS at k2
      simp only [List.length_drop] at k2
      omega
    rw [v2] at k3
    rw [v3] at k4
    rw [v0, vP] at k5
    have hp : rPut b = true := by
      unfold rPut
      rw [decide_eq_false k3, decide_eq_false k4, k5]
      rfl
    have hok : rOk b = true := by
      unfold rOk
      rw [r, hend, hp]
      simp
    rw [getF_yes ⟨h1, h2, h3, hgo⟩, v0, v1, v2, v3, vP]
    unfold rgetF
    rw [if_pos ⟨by omega, h2, by rw [rsum_sum hb (by omega)]; exact h3, hok⟩]
  · rw [getF_no h]
    unfold rgetF
    rw [if_neg]
    rintro ⟨h1, h2, h3, h4⟩
    have h4' := h4
    unfold rOk at h4
    simp only [Bool.not_eq_true', Bool.or_eq_false_iff] at h4
    obtain ⟨⟨k1, k2⟩, k3⟩ := h4
    obtain ⟨v0, v1, v2, v3, vP, vE, v40⟩ := r_eqs hl hb k1
    have hend : (rE b).1 = (rB b).length := by
      have : ((rE b).1 : Int) = ((rB b).length : Int) := by simpa using k2
      omega
    have hg : (gE b).1.length = 0 := by rw [vE]; unfold toS; simp; omega
    have hg2 : (gE b).2 = false := by rw [vE]; exact k1
    apply h
    refine ⟨by have := hBl h1; omega, h2, by rw [← rsum_sum hb h1]; exact h3, ?_⟩
    have hp : rPut b = true := by simpa using k3
    unfold rPut at hp
    unfold gOk
    rw [hg, hg2, v0, v2, v3, vP]
    simpa using hp
theorem append_full {ops : Array Oper} {rest : List Oper} {o : Oper} {a : Act} {Q : Exit → Act → World → Prop} {W : World} (hgd : o.guard = none) (s x : Operand)
    (ho : o.op = .call { callee := .builtin .append, args := #[s, x], argTypes := #[32, 32] }) (g : Nat) (bs : List Int) (y : Int) (hs : a.eval s = .slice (some ⟨g, 0, none⟩) bs.length bs.length)
    (hx : a.eval x = .slice (some ⟨W.heap.size, 0, none⟩) 1 1) (hC : Kd.C (Kd.int .u8) W (some ⟨g, 0, none⟩) bs.length bs) (hl : bs.length + 8 ≤ 140737488355328)
    (h : ∀ v1 w1, Kd.R (Kd.int .u8) 5 w1 W.heap.size (fun _ => True) v1 (bs ++ [y]) → Below W.heap.size W w1 → wpList Try.prog ops Q rest (a.put o.dst v1) w1) :
    wpList Try.prog ops Q (o :: rest) a (W.alloc (.cells #[.int .u8 y] 5)) := by
  obtain ⟨i0, hi, hzz⟩ := Option.map_eq_some_iff.1 info5
  simp only [Prod.mk.injEq] at hzz
  obtain ⟨hz0, hz1, hz2⟩ := hzz
  refine wpList_append_grows (W.alloc (.cells #[.int .u8 y] 5)) hgd s x 32 ho 5 i0 (.int .u8 0) 1 1 Try.underlying32 hi hz0 hz1 hz2 rfl (by decide) (some ⟨g, 0, none⟩) bs.length bs.length (nums .u8 bs) hs (fun h => nomatch h) (by simp [nums])
    ?_ ⟨W.heap.size, 0, none⟩ 1 1 [.int .u8 y] hx rfl ?_ (by intro u hu; rw [List.mem_singleton.1 hu]; rfl) (by omega) (by simp only [maxLen]; omega) (by omega) ?_
  · intro b hb j u hj
    cases hb
    have hlt : j < bs.length := by
      have := (List.getElem?_eq_some_iff.1 hj).1
      simpa [nums] using this
    obtain ⟨ad, he, hc⟩ := Kd.at_int hC (j : Int) (by omega) (by omega)
    cases he
    have hu : u = .int .u8 (rd bs (j : Int)) := by
      simp only [nums, List.getElem?_map, List.getElem?_eq_getElem hlt, Option.map_some, Option.some.injEq] at hj
      rw [← hj]
      simp [rd, List.getD_eq_getElem?_getD, List.getElem?_eq_getElem hlt]
    rw [hu]
    rw [Int.toNat_natCast] at hc
    exact pw_cell_below (below_alloc (Below.refl W.heap.size W) _) hc
  · intro j u hj
    match j with
    | 0 =>
      simp at hj
      subst hj
      exact (blk_cell (heap_alloc_new W _) 0).trans rfl
    | j + 1 => simp at hj
  · intro v1 w1 hown hg
    have hsz : (W.alloc (.cells #[.int .u8 y] 5)).heap.size = W.heap.size + 1 := by simp
    have h2 : w1.ownsRow W.heap.size 5 1 v1 (bs ++ [y]).length (nums .u8 (bs ++ [y])) := by
      have e : nums .u8 (bs ++ [y]) = nums .u8 bs ++ [.int .u8 y] := by rw [nums_append]; rfl
      rw [e, List.length_append, List.length_singleton]
      obtain ⟨q1, q2⟩ := hown
      exact ⟨q1, q2.imp id (fun ⟨g, cap, cur, e, hg, r⟩ => ⟨g, cap, cur, e, by omega, r⟩)⟩
    refine h v1 w1 (Kd.R_of_own (h1 := fun _ => rfl) h2 (fun _ _ => trivial)) (Below.grown (below_alloc (Below.refl W.heap.size W) _) hg (by rw [hsz]; omega) (fun k hk => nomatch hk))
set_option maxHeartbeats 4000000 in
set_option maxRecDepth 100000 in
theorem number_first (g : Nat) (bs : List Int) (m : Int) (w : World) (hC : Kd.C (Kd.int .u8) w (some ⟨g, 0, none⟩) bs.length bs) (hl : bs.length + 8 ≤ 140737488355328) (h0 : 0 ≤ m) (h1 : m < 18446744073709551616) :
    Calls Try.prog 27 #[.slice (some ⟨g, 0, none⟩) bs.length bs.length, .int .u64 m] w fun e w' => ∃ v, e = .returned v ∧ Kd.R (Kd.int .u8) 5 w' w.heap.size (fun _ => True) v (bs ++ be8 m) ∧ Below w.heap.size w w' := by
  have HC := Aside0.mk hC
  have HM := Aside0.mk (And.intro h0 h1)
  clear hC h0 h1
  go_enter Try.func27, Try.ntmps27
  go_wp2_with fail
  refine wp_loop_rounds 9 ?_
  rw [rounds_succ]
  go_wp2_with (first | ((with_reducible refine gate_builtin (b := .append) (xs := #[.tmp 10, .tmp 16]) rfl ?_); at_builtin; refine append_full (W := w) rfl (.tmp 10) (.tmp 16) rfl g bs _ rfl rfl HC.out hl ?_; intro v1 w1 r1 b1; have R1 := Aside0.mk r1; have H1 := Aside0.mk b1; clear r1 b1))
  rw [rounds_succ]
  go_wp2_with (first | ((with_reducible refine gate_builtin (b := .append) (xs := #[.tmp 10, .tmp 16]) rfl ?_); at_builtin; refine Kd.R_append (Kd.int .u8) (w0 := w) w.heap.size rfl (.tmp 10) (.tmp 16) 32 5 (.int .u8 0) 1 rfl Try.underlying32 info5 rfl (by decide) (by decide) v1 _ _ [.int .u8 _] (fun _ => True) (fun _ => False) rfl rfl rfl (fun _ h => h.elim) (fun _ _ => trivial) (Kd.R_mono R1.out (fun _ _ => trivial)) H1.out H1.out.size (by simp; omega) ?_; intro v2 w2 r2 b2 _ _; have R2 := Aside0.mk r2; have H2 := Aside0.mk b2; clear r2 b2 R1 H1))
  rw [rounds_succ]
  go_wp2_with (first | ((with_reducible refine gate_builtin (b := .append) (xs := #[.tmp 10, .tmp 16]) rfl ?_); at_builtin; refine Kd.R_append (Kd.int .u8) (w0 := w) w.heap.size rfl (.tmp 10) (.tmp 16) 32 5 (.int .u8 0) 1 rfl Try.underlying32 info5 rfl (by decide) (by decide) v2 _ _ [.int .u8 _] (fun _ => True) (fun _ => False) rfl rfl rfl (fun _ h => h.elim) (fun _ _ => trivial) (Kd.R_mono R2.out (fun _ _ => trivial)) H2.out H2.out.size (by simp; omega) ?_; intro v3 w3 r3 b3 _ _; have R3 := Aside0.mk r3; have H3 := Aside0.mk b3; clear r3 b3 R2 H2))
  rw [rounds_succ]
  go_wp2_with (first | ((with_reducible refine gate_builtin (b := .append) (xs := #[.tmp 10, .tmp 16]) rfl ?_); at_builtin; refine Kd.R_append (Kd.int .u8) (w0 := w) w.heap.size rfl (.tmp 10) (.tmp 16) 32 5 (.int .u8 0) 1 rfl Try.underlying32 info5 rfl (by decide) (by decide) v3 _ _ [.int .u8 _] (fun _ => True) (fun _ => False) rfl rfl rfl (fun _ h => h.elim) (fun _ _ => trivial) (Kd.R_mono R3.out (fun _ _ => trivial)) H3.out H3.out.size (by simp; omega) ?_; intro v4 w4 r4 b4 _ _; have R4 := Aside0.mk r4; have H4 := Aside0.mk b4; clear r4 b4 R3 H3))
  rw [rounds_succ]
  go_wp2_with (first | ((with_reducible refine gate_builtin (b := .append) (xs := #[.tmp 10, .tmp 16]) rfl ?_); at_builtin; refine Kd.R_append (Kd.int .u8) (w0 := w) w.heap.size rfl (.tmp 10) (.tmp 16) 32 5 (.int .u8 0) 1 rfl Try.underlying32 info5 rfl (by decide) (by decide) v4 _ _ [.int .u8 _] (fun _ => True) (fun _ => False) rfl rfl rfl (fun _ h => h.elim) (fun _ _ => trivial) (Kd.R_mono R4.out (fun _ _ => trivial)) H4.out H4.out.size (by simp; omega) ?_; intro v5 w5 r5 b5 _ _; have R5 := Aside0.mk r5; have H5 := Aside0.mk b5; clear r5 b5 R4 H4))
  rw [rounds_succ]
  go_wp2_with (first | ((with_reducible refine gate_builtin (b := .append) (xs := #[.tmp 10, .tmp 16]) rfl ?_); at_builtin; refine Kd.R_append (Kd.int .u8) (w0 := w) w.heap.size rfl (.tmp 10) (.tmp 16) 32 5 (.int .u8 0) 1 rfl Try.underlying32 info5 rfl (by decide) (by decide) v5 _ _ [.int .u8 _] (fun _ => True) (fun _ => False) rfl rfl rfl (fun _ h => h.elim) (fun _ _ => trivial) (Kd.R_mono R5.out (fun _ _ => trivial)) H5.out H5.out.size (by simp; omega) ?_; intro v6 w6 r6 b6 _ _; have R6 := Aside0.mk r6; have H6 := Aside0.mk b6; clear r6 b6 R5 H5))
  rw [rounds_succ]
  go_wp2_with (first | ((with_reducible refine gate_builtin (b := .append) (xs := #[.tmp 10, .tmp 16]) rfl ?_); at_builtin; refine Kd.R_append (Kd.int .u8) (w0 := w) w.heap.size rfl (.tmp 10) (.tmp 16) 32 5 (.int .u8 0) 1 rfl Try.underlying32 info5 rfl (by decide) (by decide) v6 _ _ [.int .u8 _] (fun _ => True) (fun _ => False) rfl rfl rfl (fun _ h => h.elim) (fun _ _ => trivial) (Kd.R_mono R6.out (fun _ _ => trivial)) H6.out H6.out.size (by simp; omega) ?_; intro v7 w7 r7 b7 _ _; have R7 := Aside0.mk r7; have H7 := Aside0.mk b7; clear r7 b7 R6 H6))
  rw [rounds_succ]
  go_wp2_with (first | ((with_reducible refine gate_builtin (b := .append) (xs := #[.tmp 10, .tmp 16]) rfl ?_); at_builtin; refine Kd.R_append (Kd.int .u8) (w0 := w) w.heap.size rfl (.tmp 10) (.tmp 16) 32 5 (.int .u8 0) 1 rfl Try.underlying32 info5 rfl (by decide) (by decide) v7 _ _ [.int .u8 _] (fun _ => True) (fun _ => False) rfl rfl rfl (fun _ h => h.elim) (fun _ _ => trivial) (Kd.R_mono R7.out (fun _ _ => trivial)) H7.out H7.out.size (by simp; omega) ?_; intro v8 w8 r8 b8 _ _; have R8 := Aside0.mk r8; have H8 := Aside0.mk b8; clear r8 b8 R7 H7))
  rw [rounds_succ]
  go_wp2
  have hm := HM.out
  have e : be8 m = [m / 72057594037927936 % 256, m / 281474976710656 % 256, m / 1099511627776 % 256, m / 4294967296 % 256, m / 16777216 % 256, m / 65536 % 256, m / 256 % 256, m % 256] := by
    unfold be8
    rw [wraps_u64 m hm.1 hm.2]
  refine bodyPost_ret (v := v8) (by simp [results, Try.results27, go_sem]) rfl ⟨v8, rfl, ?_, H8.out⟩
  rw [e]
  simpa using R8.out
theorem be8_u (n : Int) : be8 (IntKind.u64.wrap n) = be8 n := by
  have e : IntKind.u64.wrap (IntKind.u64.wrap n) = IntKind.u64.wrap n := by rw [wrapU, wrapU]; omega
  unfold be8
  rw [e]
theorem number_R (bs : List Int) (m : Int) (v : Value) (w0 w : World) (hB : Below w0.heap.size w0 w) (hR : Kd.R (Kd.int .u8) 5 w w0.heap.size (fun _ => True) v bs) (hl : bs.length + 8 ≤ 140737488355328) :
    Calls Try.prog 27 #[v, .int .u64 (IntKind.u64.wrap m)] w fun e w' => ∃ v', e = .returned v' ∧ Kd.R (Kd.int .u8) 5 w' w0.heap.size (fun _ => True) v' (bs ++ be8 m) ∧ Below w0.heap.size w0 w' := by
  obtain ⟨k, hk⟩ := (number_tells bs m hl).rounds
  exact (platenref20_Number.calls k (fun _ => True) v bs (IntKind.u64.wrap m) _ w0 w hB hR hk).mono fun e w' ⟨v', he, hr, hb, _⟩ => ⟨v', he, Kd.R_mono hr (fun _ _ => trivial), hb⟩
set_option maxHeartbeats 4000000 in
set_option maxRecDepth 100000 in
theorem numbers_first (g g2 : Nat) (bs : List Int) (n0 n1 n2 n3 n4 : Int) (w : World) (hC : Kd.C (Kd.int .u8) w (some ⟨g, 0, none⟩) bs.length bs) (hl : bs.length + 40 ≤ 140737488355328)
    (hb2 : w.heap[g2]? = some (.cells #[.int .i64 n0, .int .i64 n1, .int .i64 n2, .int .i64 n3, .int .i64 n4] 3 (0, 0))) :
    Calls Try.prog 24 #[.slice (some ⟨g, 0, none⟩) bs.length bs.length, .slice (some ⟨g2, 0, none⟩) 5 5] w fun e w' => ∃ v, e = .returned v ∧
      Kd.R (Kd.int .u8) 5 w' w.heap.size (fun _ => True) v (bs ++ nsB [n0, n1, n2, n3, n4]) ∧ Below w.heap.size w w' := by
  have HC := Aside0.mk hC
  have HB2 := Aside0.mk hb2
  have hc := blk_cell hb2
  clear hC hb2
  go_enter Try.func24, Try.ntmps24
  go_wp2_with fail
  refine wp_loop_rounds 6 ?_
  rw [rounds_succ]
  go_wp2_with fail
  refine (number_first g bs (IntKind.u64.wrap n0) w HC.out (by omega) (wrap_u64_nonneg _) (by rw [wrapU]; omega)).mono ?_
  rintro e W1 ⟨v1, rfl, r1, b1⟩
  rw [be8_u] at r1
  have R1 := Aside0.mk r1
  have H1 := Aside0.mk b1
  have hc1 := blk_cell ((b1.block _ (blk_lt HB2.out)).trans HB2.out)
  clear r1 b1 hc
  go_wp2_with fail
  rw [rounds_succ]
  go_wp2_with fail
  refine (number_R _ n1 v1 w W1 H1.out R1.out (by simp [be8_length]; omega)).mono ?_
  rintro e W2 ⟨v2, rfl, r2, b2⟩
  have R2 := Aside0.mk r2
  have H2 := Aside0.mk b2
  have hc2 := blk_cell ((b2.block _ (blk_lt HB2.out)).trans HB2.out)
  clear r2 b2 hc1 R1 H1
  go_wp2_with fail
  rw [rounds_succ]
  go_wp2_with fail
  refine (number_R _ n2 v2 w W2 H2.out R2.out (by simp [be8_length]; omega)).mono ?_
  rintro e W3 ⟨v3, rfl, r3, b3⟩
  have R3 := Aside0.mk r3
  have H3 := Aside0.mk b3
  have hc3 := blk_cell ((b3.block _ (blk_lt HB2.out)).trans HB2.out)
  clear r3 b3 hc2 R2 H2
  go_wp2_with fail
  rw [rounds_succ]
  go_wp2_with fail
  refine (number_R _ n3 v3 w W3 H3.out R3.out (by simp [be8_length]; omega)).mono ?_
  rintro e W4 ⟨v4, rfl, r4, b4⟩
  have R4 := Aside0.mk r4
  have H4 := Aside0.mk b4
  have hc4 := blk_cell ((b4.block _ (blk_lt HB2.out)).trans HB2.out)
  clear r4 b4 hc3 R3 H3
  go_wp2_with fail
  rw [rounds_succ]
  go_wp2_with fail
  refine (number_R _ n4 v4 w W4 H4.out R4.out (by simp [be8_length]; omega)).mono ?_
  rintro e W5 ⟨v5, rfl, r5, b5⟩
  have R5 := Aside0.mk r5
  have H5 := Aside0.mk b5
  have hc5 := blk_cell ((b5.block _ (blk_lt HB2.out)).trans HB2.out)
  clear r5 b5 hc4 R4 H4
  go_wp2_with fail
  rw [rounds_succ]
  go_wp2
  have R := R5.out
  refine bodyPost_ret (v := v5) (by simp [results, Try.results24, go_sem]) rfl ⟨v5, rfl, ?_, H5.out⟩
  have e : bs ++ nsB [n0, n1, n2, n3, n4] = bs ++ be8 n0 ++ be8 n1 ++ be8 n2 ++ be8 n3 ++ be8 n4 := by simp [nsB]
  rw [e]
  exact R
theorem C_ints {w : World} {g : Nat} {xs : List Int} (hb : w.heap[g]? = some (.cells (xs.map (Value.int .i64)).toArray 3 (0, 0))) (hl : xs.length ≤ 9223372036854775807) : Kd.C (Kd.int .i64) w (some ⟨g, 0, none⟩) xs.length xs := by
  refine ⟨rfl, hl, fun _ => ⟨_, rfl, fun j p hj => ⟨[.int .i64 p], rfl, rfl, fun i u hu => ?_⟩⟩⟩
  match i with
  | 0 =>
    simp at hu
    subst hu
    have h := blk_cell hb j
    simp only [List.getElem?_toArray, List.getElem?_map, hj, Option.map_some] at h
    show w.cell? ((⟨g, 0, none⟩ : Addr).add (j * 1 + 0)) = _
    rw [← h]
    rcases j with _ | j <;> simp [Addr.add]
  | i + 1 => simp at hu
theorem numbers_R (bs ns : List Int) (g2 : Nat) (v : Value) (w0 w : World) (hB : Below w0.heap.size w0 w) (hR : Kd.R (Kd.int .u8) 5 w w0.heap.size (fun _ => True) v bs) (hb2 : w.heap[g2]? = some (.cells (ns.map (Value.int .i64)).toArray 3 (0, 0)))
    (hl : bs.length + 8 * ns.length ≤ 140737488355328) :
    Calls Try.prog 24 #[v, .slice (some ⟨g2, 0, none⟩) ns.length ns.length] w fun e w' => ∃ v', e = .returned v' ∧ Kd.R (Kd.int .u8) 5 w' w0.heap.size (fun _ => True) v' (bs ++ nsB ns) ∧ Below w0.heap.size w0 w' ∧ Kept w w' (fun k => some k = v.ownBlock) := by
  obtain ⟨k, hk⟩ := (numbers_tells bs ns hl).rounds
  have hne := Kd.R_ne hR hb2 (by decide)
  refine (platenref20_numbers.calls k (fun k => some k = v.ownBlock) v bs (some ⟨g2, 0, none⟩) ns.length ns _ w0 w hB (Kd.R_tight rfl hR) (fun W hW => ?_) (Nat.le_refl _) hk).mono fun e w' ⟨v', he, hr, hb, hk⟩ => ⟨v', he, Kd.R_mono hr (fun _ _ => trivial), hb, hk⟩
  exact C_ints ((hW.2 g2 (blk_lt hb2) hne).trans hb2) (by omega)
theorem truth_R (bs : List Int) (t : Bool) (v : Value) (w0 w : World) (hB : Below w0.heap.size w0 w) (hR : Kd.R (Kd.int .u8) 5 w w0.heap.size (fun _ => True) v bs) (hl : bs.length + 1 ≤ 140737488355328) :
    Calls Try.prog 25 #[v, .bool t] w fun e w' => ∃ v', e = .returned v' ∧ Kd.R (Kd.int .u8) 5 w' w0.heap.size (fun _ => True) v' (bs ++ trB t) ∧ Below w0.heap.size w0 w' ∧ Kept w w' (fun k => some k = v.ownBlock) :=
  (platenref20_truth.calls (fun k => some k = v.ownBlock) v bs t _ w0 w hB (Kd.R_tight rfl hR) (truth_tells bs t hl)).mono fun e w' ⟨v', he, hr, hb, hk⟩ => ⟨v', he, Kd.R_mono hr (fun _ _ => trivial), hb, hk⟩
theorem row_R (bs : List Int) (r : S48) (A : Option Addr) (c : Nat) (v : Value) (w0 w : World) (hB : Below w0.heap.size w0 w) (hR : Kd.R (Kd.int .u8) 5 w w0.heap.size (fun _ => True) v bs) (hC : Kd.C k50 w0 A r.f3.length r.f3) (hc : r.f3.length ≤ c)
    (hl : bs.length + (rwB r).length < 140737488355328) :
    Calls Try.prog 26 #[v, .agg #[.int .i64 r.f0, .bool r.f1, .bool r.f2, .slice A r.f3.length c]] w fun e w' => ∃ v', e = .returned v' ∧ Kd.R (Kd.int .u8) 5 w' w0.heap.size (fun _ => True) v' (bs ++ rwB r) ∧ Below w0.heap.size w0 w' ∧ Kept w w' (fun k => some k = v.ownBlock) := by
  obtain ⟨k, hk⟩ := (row_tells bs r hl).rounds
  have hbs := Kd.R_base hR
  refine (platenref20_row.calls k (fun k => some k = v.ownBlock) v bs r.f0 r.f1 r.f2 A c r.f3 _ w0 w hB (Kd.R_tight rfl hR) (fun W hW => ?_) hc hk).mono fun e w' ⟨v', he, hr, hb, hk⟩ => ⟨v', he, Kd.R_mono hr (fun _ _ => trivial), hb, hk⟩
  exact Kd.C_kept_came k50_heap hC hB (fun k hk => hbs k hk.symm) W hW
theorem kept_blk {w w1 w0 : World} {v : Value} {bs : List Int} {g t : Nat} {cs : Array Value} (hk : Kept w w1 (fun k => some k = v.ownBlock)) (hR : Kd.R (Kd.int .u8) 5 w w0.heap.size (fun _ => True) v bs) (hb : w.heap[g]? = some (.cells cs t (0, 0))) (ht : (5 : Nat) ≠ t) :
    w1.heap[g]? = some (.cells cs t (0, 0)) := (hk.2 g (blk_lt hb) (Kd.R_ne hR hb ht)).trans hb
abbrev E0 : List Int := putB 0 0 0 0 []
theorem e0_get : getF E0 = (0, 0, 0, 0, [], 0) := by kernel_rfl
theorem e0_len : E0.length = 56 := by kernel_rfl
theorem e0_mark : (strOfNums (E0.take 8)) = ⟨#[112, 108, 97, 116, 101, 110, 65, 49]⟩ := by kernel_rfl
abbrev B1 : S50 := ⟨0, 0, ⟨#[70]⟩, 0, 0, 0, 0, 0, 0, 0⟩
abbrev R1 : S48 := ⟨0, false, false, [B1]⟩
abbrev P1 : S45 := ⟨0, 0, false, [R1]⟩
theorem e1_len : (bodyB 0 0 0 0 [P1]).length = 172 := by kernel_rfl
theorem C_one {α : Type} {d : Kd α} {w : World} {g t : Nat} {x : α} {cs : List Value} (hb : w.heap[g]? = some (.cells cs.toArray t (0, 0))) (hK : d.K w x cs) : d.C w (some ⟨g, 0, none⟩) 1 [x] := by
  refine ⟨rfl, by decide, fun _ => ⟨_, rfl, fun j p hj => ?_⟩⟩
  cases j with
  | zero =>
    cases hj
    refine ⟨cs, d.K_len hK, hK, fun i u hu => ?_⟩
    have h := blk_cell hb i
    simp only [List.getElem?_toArray] at h
    rw [hu] at h
    rcases i with _ | i <;> simpa [Addr.add] using h
  | succ j => simp at hj
abbrev o50 : Obj := .cells #[.int .i64 0, .int .i64 0, .string { data := #[70] }, .int .i64 0, .int .i64 0, .int .i64 0, .int .i64 0, .int .i64 0, .int .i64 0, .int .i64 0] 50
abbrev o48 (g : Nat) : Obj := .cells #[.int .i64 0, .bool false, .bool false, .slice (some ⟨g, 0, none⟩) 1 1] 48
abbrev o45 (g : Nat) : Obj := .cells #[.int .i64 0, .int .i64 0, .bool false, .slice (some ⟨g, 0, none⟩) 1 1] 45
theorem heap_alloc_old (w : World) (o : Obj) {g : Nat} {x : Obj} (h : w.heap[g]? = some x) : (w.alloc o).heap[g]? = some x := (Below.heap_alloc w _ _ (blk_lt h)).trans h
theorem shown_arg (w : World) : Kd.C k45 (((w.alloc o50).alloc (o48 w.heap.size)).alloc (o45 (w.heap.size + 1))) (some ⟨w.heap.size + 1 + 1, 0, none⟩) ([P1] : List S45).length [P1] := by
  have h1 : (w.alloc o50).heap[w.heap.size]? = some o50 := heap_alloc_new w _
  have h2 : ((w.alloc o50).alloc (o48 w.heap.size)).heap[w.heap.size + 1]? = some (o48 w.heap.size) := by simpa using heap_alloc_new (w.alloc o50) (o48 w.heap.size)
  have h3 : (((w.alloc o50).alloc (o48 w.heap.size)).alloc (o45 (w.heap.size + 1))).heap[w.heap.size + 1 + 1]? = some (o45 (w.heap.size + 1)) := by simpa using heap_alloc_new ((w.alloc o50).alloc (o48 w.heap.size)) (o45 (w.heap.size + 1))
  have c1 := C_one (d := k50) (x := B1) (cs := [.int .i64 0, .int .i64 0, .string { data := #[70] }, .int .i64 0, .int .i64 0, .int .i64 0, .int .i64 0, .int .i64 0, .int .i64 0, .int .i64 0]) (heap_alloc_old _ (o45 (w.heap.size + 1)) (heap_alloc_old _ (o48 w.heap.size) h1)) (k50_mk _ B1)
  have c2 := C_one (d := k48) (x := R1) (cs := [.int .i64 0, .bool false, .bool false, .slice (some ⟨w.heap.size, 0, none⟩) 1 1]) (heap_alloc_old _ (o45 (w.heap.size + 1)) h2) (k48_mk _ R1 (A3 := some ⟨w.heap.size, 0, none⟩) (c3 := 1) (Nat.le_refl _) c1)
  exact C_one (d := k45) (x := P1) (cs := [.int .i64 0, .int .i64 0, .bool false, .slice (some ⟨w.heap.size + 1, 0, none⟩) 1 1]) h3 (k45_mk _ P1 (A3 := some ⟨w.heap.size + 1, 0, none⟩) (c3 := 1) (Nat.le_refl _) c2)
theorem e1_put : putF 0 0 0 0 [P1] = some (putB 0 0 0 0 [P1], 0) := by
  unfold putF
  rw [if_neg (by decide), if_pos (by rw [e1_len]; decide)]
theorem e1_plen : (putB 0 0 0 0 [P1]).length = 180 := by kernel_rfl
set_option maxHeartbeats 1000000 in
set_option maxRecDepth 100000 in
theorem shown_calls (w : World) : Calls Try.prog 8 #[] w fun e w' => e = .returned (.bool true) ∧ Below w.heap.size w w' := by
  go_enter Try.func8, Try.ntmps8
  go_wp2_with fail
  refine (put_all 0 0 0 0 none 0 [] E0 0 w (Kd.C_nil _ _) (Nat.le_refl _) rfl).mono ?_
  rintro e W1 ⟨v1, rfl, r1, b1⟩
  obtain ⟨A1, c1, hv1, hc1, hr1⟩ := Kd.R_reads r1
  subst hv1
  rw [e0_len] at hc1 hr1
  rw [e0_len]
  have HR1 := Aside0.mk hr1
  have H1 := Aside0.mk b1
  clear r1 b1 hr1
  go_wp2_with fail
  refine (put_all 0 0 (-1) 0 none 0 [] [] 200 W1 (Kd.C_nil _ _) (Nat.le_refl _) rfl).mono ?_
  rintro e W2 ⟨v2, rfl, r2, b2⟩
  have H2 := Aside0.mk (below_step H1.out b2)
  have HR2 := Aside0.mk (Kd.C_below HR1.out b2)
  clear r2 b2 H1 HR1
  go_wp2_with fail
  refine (put_all 0 0 0 0 (some ⟨W2.heap.size + 1 + 1, 0, none⟩) 1 [P1] _ 0 _ (shown_arg W2) (Nat.le_refl _) e1_put).mono ?_
  rintro e W3 ⟨v3, rfl, r3, b3⟩
  obtain ⟨A3, c3, hv3, hc3, hr3⟩ := Kd.R_reads r3
  subst hv3
  rw [e1_plen] at hc3
  rw [e1_plen]
  have hb23 : Below w.heap.size w W3 := below_step (by repeat (first | exact H2.out | apply below_alloc)) b3
  have hr23 := Kd.C_below (Kd.C_alloc (Kd.C_alloc (Kd.C_alloc HR2.out _) _) _) b3
  have H3 := Aside0.mk hb23
  have HR3 := Aside0.mk hr23
  clear r3 b3 hr3 HR2 H2 hb23 hr23
  go_wp2_with fail
  refine (get_all none 0 [] W3 (Kd.C_nil _ _) (Nat.le_refl _) (by decide)).mono ?_
  rintro e W4 ⟨v4, rfl, r4, b4⟩
  have g0' : getF [] = (0, 0, 0, 0, [], 200) := by kernel_rfl
  rw [g0'] at r4
  simp only [g0']
  obtain ⟨A4, c4, hv4⟩ := Kd.S_slice r4
  subst hv4
  have hb34 := below_step H3.out b4
  have hr34 := Kd.C_below HR3.out b4
  have H4 := Aside0.mk hb34
  have HR4 := Aside0.mk hr34
  clear r4 b4 hb34 hr34 HR3 H3 g0'
  go_wp2_with fail
  have hg := fun W (h : Kd.C (Kd.int .u8) W A1 E0.length E0) => get_all A1 c1 E0 W h (by rw [e0_len]; exact hc1) (by rw [e0_len]; decide)
  rw [e0_len] at hg
  refine (hg _ (Kd.C_alloc HR4.out _)).mono ?_
  rintro e W5 ⟨v5, rfl, r5, b5⟩
  rw [e0_get] at r5
  simp only [e0_get]
  obtain ⟨A5, c5, hv5, hc5, hr5⟩ := Kd.S_reads r5
  subst hv5
  have hb45 := below_step (below_alloc H4.out _) b5
  have hr45 := Kd.C_below (Kd.C_alloc HR4.out _) b5
  have h8 : (E0.take 8).length = 8 := by kernel_rfl
  have hcv : (convert 32 9 (.slice A1 8 c1)).run Try.prog (W5.alloc (.cells #[.int .i64 0, .int .i64 0, .int .i64 0, .int .i64 0, .slice A5 0 c5] 27)) = .ok (.string ⟨#[112, 108, 97, 116, 101, 110, 65, 49]⟩) (W5.alloc (.cells #[.int .i64 0, .int .i64 0, .int .i64 0, .int .i64 0, .slice A5 0 c5] 27)) := by
    have h := Kd.C_alloc (Kd.C_take (m := 8) (xs := E0) (by rw [e0_len]; exact hr45) (by rw [e0_len]; decide)) (.cells #[.int .i64 0, .int .i64 0, .int .i64 0, .int .i64 0, .slice A5 0 c5] 27)
    have h2 := Kd.C_string (c := c1) Try.underlying32 Try.underlying5 Try.underlying9 h
    rw [h8, e0_mark] at h2
    exact h2
  have hc8 : 8 ≤ c1 := by omega
  have HR5 := Aside0.mk (Kd.C_alloc hr5 (.cells #[.int .i64 0, .int .i64 0, .int .i64 0, .int .i64 0, .slice A5 ([] : List S45).length c5] 27))
  have H5 := Aside0.mk (below_alloc hb45 (.cells #[.int .i64 0, .int .i64 0, .int .i64 0, .int .i64 0, .slice A5 ([] : List S45).length c5] 27))
  clear r5 b5 hr5 hr45 hb45 HR4 H4 hg h8
  go_wp2_with fail
  refine (platenlaw20_same.calls 5 0 0 0 0 A5 c5 [] 0 0 0 0 none 0 [] true _ HR5.out (Nat.zero_le _) (Kd.C_nil _ _) (Nat.le_refl _) (by kernel_rfl)).mono ?_
  rintro e W6 ⟨rfl, h6⟩
  have H6 := Aside0.mk (below_step H5.out h6)
  clear h6
  clear hcv hc8 H5 HR5
  go_wp2
  exact bodyPost_ret (v := .bool true) (by simp [results, Try.results8, go_sem]) rfl ⟨rfl, H6.out⟩
theorem refput_no (a0 a1 a2 a3 : Int) (A : Option Addr) (c : Nat) (l : List S45) (w : World) (hC : Kd.C k45 w A l.length l) (hc : l.length ≤ c)
    (h : a2 < 0 ∨ a3 < 0 ∨ a0 ≠ 0 ∧ 0 < l.length) :
    Calls Try.prog 11 #[.agg #[.int .i64 a0, .int .i64 a1, .int .i64 a2, .int .i64 a3, .slice A l.length c]] w fun e w' =>
      e = .returned (.tuple #[.slice none 0 0, .int .i64 200]) ∧ Below w.heap.size w w' := by
  clear hC
  by_cases h2 : a2 < 0
  · clear h
    have h2b : decide (a2 < 0) = true := by simpa using h2
    go_enter Try.func11, Try.ntmps11
    go_wp2
    go_ret2
    exact ⟨rfl, below_alloc (Below.refl _ _) _⟩
  have h2b : decide (a2 < 0) = false := by simpa using h2
  by_cases h3 : a3 < 0
  · clear h
    have h3b : decide (a3 < 0) = true := by simpa using h3
    go_enter Try.func11, Try.ntmps11
    go_wp2
    go_ret2
    exact ⟨rfl, below_alloc (Below.refl _ _) _⟩
  have h3b : decide (a3 < 0) = false := by simpa using h3
  have h4 : a0 ≠ 0 ∧ 0 < l.length := by omega
  have h0b : (a0 == 0) = false := by simpa using h4.1
  have h0c : (a0 != 0) = true := by simpa using h4.1
  have h5 : decide ((0 : Int) < (l.length : Int)) = true := by simpa using h4.2
  have h6 : decide (0 < l.length) = true := by simpa using h4.2
  clear h h4
  go_enter Try.func11, Try.ntmps11
  go_wp2
  go_ret2
  exact ⟨rfl, below_alloc (Below.refl _ _) _⟩
theorem C_bytes {w : World} {g : Nat} {xs : List Int} {f : Nat × Nat} (hb : w.heap[g]? = some (.cells (xs.map (Value.int .u8)).toArray 5 f)) (hl : xs.length ≤ 9223372036854775807) : Kd.C (Kd.int .u8) w (some ⟨g, 0, none⟩) xs.length xs := by
  refine ⟨rfl, hl, fun _ => ⟨_, rfl, fun j p hj => ⟨[.int .u8 p], rfl, rfl, fun i u hu => ?_⟩⟩⟩
  match i with
  | 0 =>
    simp at hu
    subst hu
    have h : w.cell? ⟨g, j, none⟩ = some (.int .u8 p) := by simp [World.cell?, hb, hj]
    show w.cell? ((⟨g, 0, none⟩ : Addr).add (j * 1 + 0)) = _
    rw [← h]
    rcases j with _ | j <;> simp [Addr.add]
  | i + 1 => simp at hu
set_option maxHeartbeats 4000000 in
set_option maxRecDepth 100000 in
theorem refput_ok (a0 a1 a2 a3 : Int) (A : Option Addr) (c : Nat) (l : List S45) (w : World) (hC : Kd.C k45 w A l.length l) (hc : l.length ≤ c)
    (h2 : 0 ≤ a2) (h3 : 0 ≤ a3) (h0 : a0 = 0 ∨ l.length = 0) (hl : (bodyB a0 a1 a2 a3 l).length + 8 < 140737488355328) :
    Calls Try.prog 11 #[.agg #[.int .i64 a0, .int .i64 a1, .int .i64 a2, .int .i64 a3, .slice A l.length c]] w fun e w' =>
      ∃ v : Value, e = .returned (.tuple #[v, .int .i64 0]) ∧ Kd.R (Kd.int .u8) 5 w' w.heap.size (fun _ => True) v (putB a0 a1 a2 a3 l) ∧ Below w.heap.size w w' := by
  have HC := Aside0.mk hC
  have HL := Aside0.mk hl
  have h2b : decide (a2 < 0) = false := by simpa using h2
  have h3b : decide (a3 < 0) = false := by simpa using h3
  have h0b : ((a0 != 0) && decide ((0 : Int) < (l.length : Int))) = false := by
    rcases h0 with rfl | h
    · simp
    · simp [h]
  have H0b := Aside0.mk h0b
  clear hC hl h0b
  go_enter Try.func11, Try.ntmps11
  go_upto_region 1 with (fail)
  go_cut [27] (fun v27 wc => v27 = .bool false ∧ w.alloc (.cells #[.int .i64 a0, .int .i64 a1, .int .i64 a2, .int .i64 a3, .slice A l.length c] 27) = wc)
  case first =>
    by_cases h00 : a0 = 0
    · have z1 : (a0 == 0) = true := by simpa using h00
      have z2 : (a0 != 0) = false := by simpa using h00
      clear h00
      go_wp2
      go_meet
      case rel => exact ⟨rfl, rfl⟩
    · have z1 : (a0 == 0) = false := by simpa using h00
      have z2 : (a0 != 0) = true := by simpa using h00
      have hz : decide ((0 : Int) < (l.length : Int)) = false := by have := H0b.out; simpa [h00] using this
      have hz' : decide (0 < l.length) = false := by simpa using hz
      go_wp2
      go_meet
      case rel => exact ⟨rfl, rfl⟩
  case rest =>
    obtain ⟨rfl, hwc⟩ := hcut
    subst hwc
    clear h0
    have hsz : (w.alloc (.cells #[.int .i64 a0, .int .i64 a1, .int .i64 a2, .int .i64 a3, .slice A l.length c] 27)).heap.size = w.heap.size + 1 := by simp
    have hcv : (convert 32 32 (.slice (some ⟨w.heap.size + 1, 0, none⟩) 8 8)).run Try.prog ((w.alloc (.cells #[.int .i64 a0, .int .i64 a1, .int .i64 a2, .int .i64 a3, .slice A l.length c] 27)).alloc (.cells #[.int .u8 112, .int .u8 108, .int .u8 97, .int .u8 116, .int .u8 101, .int .u8 110, .int .u8 65, .int .u8 49] 5)) = .ok (.slice (some ⟨w.heap.size + 1, 0, none⟩) 8 8) ((w.alloc (.cells #[.int .i64 a0, .int .i64 a1, .int .i64 a2, .int .i64 a3, .slice A l.length c] 27)).alloc (.cells #[.int .u8 112, .int .u8 108, .int .u8 97, .int .u8 116, .int .u8 101, .int .u8 110, .int .u8 65, .int .u8 49] 5 (8, 9))) := by
      have h := Lib.run_convert_bytes_const (P := Try.prog) (w.alloc (.cells #[.int .i64 a0, .int .i64 a1, .int .i64 a2, .int .i64 a3, .slice A l.length c] 27)) 32 5 #[.int .u8 112, .int .u8 108, .int .u8 97, .int .u8 116, .int .u8 101, .int .u8 110, .int .u8 65, .int .u8 49] 8 8 Try.underlying32 Try.underlying5
      rw [hsz] at h
      exact h
    have HSZ := Aside0.mk hsz
    clear hsz
    have hb0 : (((w.alloc (.cells #[.int .i64 a0, .int .i64 a1, .int .i64 a2, .int .i64 a3, .slice A l.length c] 27)).alloc (.cells #[.int .u8 112, .int .u8 108, .int .u8 97, .int .u8 116, .int .u8 101, .int .u8 110, .int .u8 65, .int .u8 49] 5 (8, 9)))).heap[w.heap.size]? = some (.cells #[.int .i64 a0, .int .i64 a1, .int .i64 a2, .int .i64 a3, .slice A l.length c] 27 (0, 0)) := heap_alloc_old _ _ (heap_alloc_new w _)
    have hc0 := blk_cell hb0
    go_wp2_with fail
    have hcall := numbers_first (w.heap.size + 1) (w.heap.size + 1 + 1) markB a0 a1 a2 a3 (l.length : Int) (((w.alloc (.cells #[.int .i64 a0, .int .i64 a1, .int .i64 a2, .int .i64 a3, .slice A l.length c] 27)).alloc (.cells #[.int .u8 112, .int .u8 108, .int .u8 97, .int .u8 116, .int .u8 101, .int .u8 110, .int .u8 65, .int .u8 49] 5 (8, 9))).alloc (.cells #[.int .i64 a0, .int .i64 a1, .int .i64 a2, .int .i64 a3, .int .i64 (l.length : Int)] 3))
      (C_bytes (f := (8, 9)) (heap_alloc_old _ _ (by have h := heap_alloc_new (w.alloc (.cells #[.int .i64 a0, .int .i64 a1, .int .i64 a2, .int .i64 a3, .slice A l.length c] 27)) (.cells #[.int .u8 112, .int .u8 108, .int .u8 97, .int .u8 116, .int .u8 101, .int .u8 110, .int .u8 65, .int .u8 49] 5 (8, 9)); rw [HSZ.out] at h; exact h)) (by decide)) (by decide)
      (by have h := heap_alloc_new ((w.alloc (.cells #[.int .i64 a0, .int .i64 a1, .int .i64 a2, .int .i64 a3, .slice A l.length c] 27)).alloc (.cells #[.int .u8 112, .int .u8 108, .int .u8 97, .int .u8 116, .int .u8 101, .int .u8 110, .int .u8 65, .int .u8 49] 5 (8, 9))) (.cells #[.int .i64 a0, .int .i64 a1, .int .i64 a2, .int .i64 a3, .int .i64 (l.length : Int)] 3); simpa using h)
    refine hcall.mono ?_
    rintro e W1 ⟨v1, rfl, r1, b1⟩
    have hba : Below w.heap.size w (((w.alloc (.cells #[.int .i64 a0, .int .i64 a1, .int .i64 a2, .int .i64 a3, .slice A l.length c] 27)).alloc (.cells #[.int .u8 112, .int .u8 108, .int .u8 97, .int .u8 116, .int .u8 101, .int .u8 110, .int .u8 65, .int .u8 49] 5 (8, 9))).alloc (.cells #[.int .i64 a0, .int .i64 a1, .int .i64 a2, .int .i64 a3, .int .i64 (l.length : Int)] 3)) := below_alloc (below_alloc (below_alloc (Below.refl _ _) _) _) _
    have R1 := Aside0.mk (Kd.R_lower r1 hba.size)
    have H1 := Aside0.mk (below_step hba b1)
    have hb1 := (b1.block _ (blk_lt (heap_alloc_old _ _ hb0))).trans (heap_alloc_old _ (.cells #[.int .i64 a0, .int .i64 a1, .int .i64 a2, .int .i64 a3, .int .i64 (l.length : Int)] 3) hb0)
    have K1 := Aside0.mk hb1
    clear hcall r1 b1 hba hb1 hb0 hc0 hcv HSZ
    have hll : l.length ≤ 140737488355328 := by have h1 := flat_ge pgB (fun r => by rw [pgB_length]; omega) l; have h2 := HL.out; rw [bodyB_length] at h2; simp only [pgsB] at h2; omega
    go_wp2_with fail
    go_loopg [4, 5] l.length (fun kq v4 v5 wr => ∃ i : Nat, i + kq = l.length ∧ v5 = .int .i64 (i : Int) ∧ Aside0 (Kd.R (Kd.int .u8) 5 wr w.heap.size (fun _ => True) v4 ((markB ++ nsB [a0, a1, a2, a3, (l.length : Int)]) ++ pgsB (l.take i))) ∧
      Aside0 (wr.heap[w.heap.size]? = some (.cells #[.int .i64 a0, .int .i64 a1, .int .i64 a2, .int .i64 a3, .slice A l.length c] 27 (0, 0))) ∧ Aside0 (Below w.heap.size w wr))
    case atStart => exact ⟨0, Nat.zero_add _, rfl, by simpa [pgsB] using R1, K1, H1⟩
    case round =>
      obtain ⟨i, hi, rfl, R2, K2, H2⟩ := hrel
      have hc2 := blk_cell K2.out
      clear R1 K1 H1
      cases gk with
      | zero =>
        have hii : i = l.length := by omega
        subst hii
        have eb : (markB ++ nsB [a0, a1, a2, a3, (l.length : Int)]) ++ pgsB (l.take l.length) = bodyB a0 a1 a2 a3 l := by rw [List.take_length]; simp [bodyB, headB, nsB]
        rw [eb] at R2
        obtain ⟨Ab, cb, rfl⟩ := Kd.R_slice R2.out
        have z1 : decide ((l.length : Int) < (l.length : Int)) = false := by simp
        have hbl := HL.out
        obtain ⟨ks, hks⟩ := (refsum_tells (bodyB a0 a1 a2 a3 l) (by omega)).rounds
        have HKS := Aside0.mk hks
        clear eb hks
        go_wp2_with fail
        refine (platenref20_Sum.calls ks Ab cb (bodyB a0 a1 a2 a3 l) (fnvs (bodyB a0 a1 a2 a3 l)) wr (Kd.R_reads' R2.out).2.2 (Kd.R_reads' R2.out).2.1 HKS.out).mono ?_
        rintro e W3 ⟨rfl, hD⟩
        have R3 := Aside0.mk (Kd.R_below R2.out hD.below)
        have H3 := Aside0.mk (below_step H2.out hD.below)
        clear hD R2 K2 H2 hc2
        go_wp2_with fail
        have hn := number_R (bodyB a0 a1 a2 a3 l) (fnvs (bodyB a0 a1 a2 a3 l)) (.slice Ab (bodyB a0 a1 a2 a3 l).length cb) w W3 H3.out R3.out (by omega)
        have hf : inU (fnvs (bodyB a0 a1 a2 a3 l)) := fnvs_in _ _ fnv0
        rw [wraps_u64 (fnvs (bodyB a0 a1 a2 a3 l)) hf.1 (by have := hf.2; omega)] at hn
        refine hn.mono ?_
        rintro e W4 ⟨v4, rfl, r4, b4⟩
        have R4 := Aside0.mk r4
        have H4 := Aside0.mk b4
        clear r4 b4 R3 H3 hn
        go_wp2
        refine bodyPost_ret (v := .tuple #[v4, .int .i64 0]) (by simp [results, Try.results11, go_sem]) rfl ⟨v4, rfl, ?_, H4.out⟩
        rw [putB_wsum]
        exact R4.out
      | succ k =>
        have hil : i < l.length := by omega
        have z1 : decide ((i : Int) < (l.length : Int)) = true := by simpa using hil
        have HEp := Aside0.mk (show pgsB (l.take (i + 1)) = pgsB (l.take i) ++ pgB (rd_T45 l (i : Int)) from take_flat pgB z45 l i hil)
        have HLp := Aside0.mk (show (markB ++ nsB [a0, a1, a2, a3, (l.length : Int)]).length + (pgsB (l.take i)).length + (pgB (rd_T45 l (i : Int))).length + 8 < 140737488355328 by
          have h1 := HEp.out
          have h2 := congrArg List.length h1
          have h3 := take_flat_le pgB l (i + 1)
          have h4 := HL.out
          rw [bodyB_length] at h4
          rw [List.length_append] at h2
          have hm : markB.length = 8 := rfl
          rw [List.length_append, nsB_length, hm]
          simp only [List.length_cons, List.length_nil]
          unfold pgsB at h2 h4 ⊢
          omega)
        obtain ⟨ad, A3, c3, hA, p0, p1, p2, p3, l3, g3⟩ := at_T45 HC.out (i : Int) (by omega) (by omega)
        subst hA
        simp only [Int.toNat_natCast] at p0 p1 p2 p3
        have q0 := pw_cell_below H2.out p0
        have q1 := pw_cell_below H2.out p1
        have q2 := pw_cell_below H2.out p2
        have q3 := pw_cell_below H2.out p3
        have G3 := Aside0.mk g3
        clear g3 p0 p1 p2 p3
        go_wp2_with fail
        have hb45 := heap_alloc_old _ (.cells #[.int .i64 (rd_T45 l (i : Int)).f0, .int .i64 (rd_T45 l (i : Int)).f1] 3) (heap_alloc_new wr (.cells #[.int .i64 (rd_T45 l (i : Int)).f0, .int .i64 (rd_T45 l (i : Int)).f1, .bool (rd_T45 l (i : Int)).f2, .slice A3 (rd_T45 l (i : Int)).f3.length c3] 45))
        have hb27 := heap_alloc_old _ (.cells #[.int .i64 (rd_T45 l (i : Int)).f0, .int .i64 (rd_T45 l (i : Int)).f1] 3) (heap_alloc_old _ (.cells #[.int .i64 (rd_T45 l (i : Int)).f0, .int .i64 (rd_T45 l (i : Int)).f1, .bool (rd_T45 l (i : Int)).f2, .slice A3 (rd_T45 l (i : Int)).f3.length c3] 45) K2.out)
        have hR0 := Kd.R_alloc (Kd.R_alloc R2.out (.cells #[.int .i64 (rd_T45 l (i : Int)).f0, .int .i64 (rd_T45 l (i : Int)).f1, .bool (rd_T45 l (i : Int)).f2, .slice A3 (rd_T45 l (i : Int)).f3.length c3] 45)) (.cells #[.int .i64 (rd_T45 l (i : Int)).f0, .int .i64 (rd_T45 l (i : Int)).f1] 3)
        refine (numbers_R _ [(rd_T45 l (i : Int)).f0, (rd_T45 l (i : Int)).f1] (wr.heap.size + 1) _ w _ (below_alloc (below_alloc H2.out (.cells #[.int .i64 (rd_T45 l (i : Int)).f0, .int .i64 (rd_T45 l (i : Int)).f1, .bool (rd_T45 l (i : Int)).f2, .slice A3 (rd_T45 l (i : Int)).f3.length c3] 45)) (.cells #[.int .i64 (rd_T45 l (i : Int)).f0, .int .i64 (rd_T45 l (i : Int)).f1] 3)) hR0 (by have h := heap_alloc_new (wr.alloc (.cells #[.int .i64 (rd_T45 l (i : Int)).f0, .int .i64 (rd_T45 l (i : Int)).f1, .bool (rd_T45 l (i : Int)).f2, .slice A3 (rd_T45 l (i : Int)).f3.length c3] 45)) (.cells #[.int .i64 (rd_T45 l (i : Int)).f0, .int .i64 (rd_T45 l (i : Int)).f1] 3); simpa using h) (by have h := HLp.out; rw [pgB_length] at h; rw [List.length_append]; simp only [List.length_cons, List.length_nil]; omega)).mono ?_
        rintro e W11 ⟨v11, rfl, r11, b11, k11⟩
        have K11 := Aside0.mk (kept_blk k11 hR0 hb45 (by decide))
        have J11 := Aside0.mk (kept_blk k11 hR0 hb27 (by decide))
        have R11 := Aside0.mk r11
        have H11 := Aside0.mk b11
        have hc0 := blk_cell K11.out
        clear q0 q1 q2 q3 hb45 hb27 hR0 r11 b11 k11 hc2 R2 H2 K2
        go_wp2_with fail
        refine (truth_R _ (rd_T45 l (i : Int)).f2 v11 w W11 H11.out R11.out (by have h := HLp.out; rw [pgB_length] at h; simp only [List.length_append, nsB_length, trB_length, List.length_cons, List.length_nil] at h ⊢; omega)).mono ?_
        rintro e W12 ⟨v12, rfl, r12, b12, k12⟩
        have K12 := Aside0.mk (kept_blk k12 R11.out K11.out (by decide))
        have J12 := Aside0.mk (kept_blk k12 R11.out J11.out (by decide))
        have R12 := Aside0.mk r12
        have H12 := Aside0.mk b12
        clear r12 b12 k12 R11 H11 K11 J11 hc0
        have hc0 := blk_cell K12.out
        go_wp2_with fail
        have hb45 := heap_alloc_old _ (.cells #[.int .i64 ((rd_T45 l (i : Int)).f3.length : Int)] 3) K12.out
        have hb27 := heap_alloc_old _ (.cells #[.int .i64 ((rd_T45 l (i : Int)).f3.length : Int)] 3) J12.out
        have hR0 := Kd.R_alloc R12.out (.cells #[.int .i64 ((rd_T45 l (i : Int)).f3.length : Int)] 3)
        refine (numbers_R _ [((rd_T45 l (i : Int)).f3.length : Int)] W12.heap.size _ w _ (below_alloc H12.out (.cells #[.int .i64 ((rd_T45 l (i : Int)).f3.length : Int)] 3)) hR0 (heap_alloc_new W12 (.cells #[.int .i64 ((rd_T45 l (i : Int)).f3.length : Int)] 3)) (by have h := HLp.out; rw [pgB_length] at h; simp only [List.length_append, nsB_length, trB_length, List.length_cons, List.length_nil] at h ⊢; omega)).mono ?_
        rintro e W13 ⟨v13, rfl, r13, b13, k13⟩
        have K13 := Aside0.mk (kept_blk k13 hR0 hb45 (by decide))
        have J13 := Aside0.mk (kept_blk k13 hR0 hb27 (by decide))
        have R13 := Aside0.mk r13
        have H13 := Aside0.mk b13
        clear r13 b13 k13 R12 H12 K12 J12 hc0 hb45 hb27 hR0
        go_wp2_with fail
        go_loopg [4, 7] (rd_T45 l (i : Int)).f3.length (fun kj v4 v7 wq => ∃ j : Nat, j + kj = (rd_T45 l (i : Int)).f3.length ∧ v7 = .int .i64 (j : Int) ∧ Aside0 (Kd.R (Kd.int .u8) 5 wq w.heap.size (fun _ => True) v4 ((((((markB ++ nsB [a0, a1, a2, a3, (l.length : Int)]) ++ pgsB (l.take i)) ++ nsB [(rd_T45 l (i : Int)).f0, (rd_T45 l (i : Int)).f1]) ++ trB (rd_T45 l (i : Int)).f2) ++ nsB [((rd_T45 l (i : Int)).f3.length : Int)]) ++ rwsB ((rd_T45 l (i : Int)).f3.take j))) ∧
          Aside0 (wq.heap[wr.heap.size]? = some (.cells #[.int .i64 (rd_T45 l (i : Int)).f0, .int .i64 (rd_T45 l (i : Int)).f1, .bool (rd_T45 l (i : Int)).f2, .slice A3 (rd_T45 l (i : Int)).f3.length c3] 45 (0, 0))) ∧ Aside0 (wq.heap[w.heap.size]? = some (.cells #[.int .i64 a0, .int .i64 a1, .int .i64 a2, .int .i64 a3, .slice (some ad) l.length c] 27 (0, 0))) ∧ Aside0 (Below w.heap.size w wq))
        case atStart => exact ⟨0, Nat.zero_add _, rfl, by simpa [rwsB] using R13, K13, J13, H13⟩
        case round =>
          obtain ⟨j, hj, rfl, R4, K4, J4, H4⟩ := hrel
          have hc4 := blk_cell K4.out
          clear R13 K13 J13 H13
          have hjl : (rd_T45 l (i : Int)).f3.length ≤ 140737488355328 := by have h1 := flat_ge rwB (fun r => by rw [rwB_length]; omega) (rd_T45 l (i : Int)).f3; have h2 := HLp.out; rw [pgB_length] at h2; simp only [rwsB] at h2; omega
          cases gk with
          | zero =>
            have hjj : j = (rd_T45 l (i : Int)).f3.length := by omega
            subst hjj
            have y1 : decide (((rd_T45 l (i : Int)).f3.length : Int) < ((rd_T45 l (i : Int)).f3.length : Int)) = false := by simp
            go_wp2_with fail
            go_roundg k
            case measure => omega
            case rel =>
              refine ⟨i + 1, by omega, by go_num, ?_, J4, H4⟩
              refine ⟨?_⟩
              rw [HEp.out]
              have h := R4.out
              rw [List.take_length] at h
              simpa [pgB, nsB] using h
          | succ m =>
            have hjlt : j < (rd_T45 l (i : Int)).f3.length := by omega
            have y1 : decide ((j : Int) < ((rd_T45 l (i : Int)).f3.length : Int)) = true := by simpa using hjlt
            have HEq := Aside0.mk (show rwsB ((rd_T45 l (i : Int)).f3.take (j + 1)) = rwsB ((rd_T45 l (i : Int)).f3.take j) ++ rwB (rd_T48 (rd_T45 l (i : Int)).f3 (j : Int)) from take_flat rwB z48 (rd_T45 l (i : Int)).f3 j hjlt)
            have HLq := Aside0.mk (show (rwsB ((rd_T45 l (i : Int)).f3.take j)).length + (rwB (rd_T48 (rd_T45 l (i : Int)).f3 (j : Int))).length ≤ (rwsB (rd_T45 l (i : Int)).f3).length by
              have h1 := congrArg List.length HEq.out
              have h2 := take_flat_le rwB (rd_T45 l (i : Int)).f3 (j + 1)
              rw [List.length_append] at h1
              unfold rwsB at h1 ⊢
              omega)
            obtain ⟨aq, A5, c5, hA5, p0, p1, p2, p3, l5, g5⟩ := at_T48 G3.out (j : Int) (by omega) (by omega)
            subst hA5
            simp only [Int.toNat_natCast] at p0 p1 p2 p3
            have q0 := pw_cell_below H4.out p0
            have q1 := pw_cell_below H4.out p1
            have q2 := pw_cell_below H4.out p2
            have q3 := pw_cell_below H4.out p3
            have G5 := Aside0.mk g5
            clear g5 p0 p1 p2 p3
            go_wp2_with fail
            refine (row_R _ (rd_T48 (rd_T45 l (i : Int)).f3 (j : Int)) A5 c5 _ w _ H4.out R4.out G5.out l5 (by have h := HLp.out; have h2 := HLq.out; rw [pgB_length] at h; simp only [List.length_append, nsB_length, trB_length, List.length_cons, List.length_nil] at h ⊢; omega)).mono ?_
            rintro e W21 ⟨v21, rfl, r21, b21, k21⟩
            have K21 := Aside0.mk (kept_blk k21 R4.out K4.out (by decide))
            have J21 := Aside0.mk (kept_blk k21 R4.out J4.out (by decide))
            have R21 := Aside0.mk r21
            have H21 := Aside0.mk b21
            clear q0 q1 q2 q3 r21 b21 k21 R4 H4 K4 J4 hc4
            go_wp2_with fail
            go_roundg m
            case measure => omega
            case rel =>
              refine ⟨j + 1, by omega, by go_num, ⟨?_⟩, K21, J21, H21⟩
              rw [HEq.out]
              simpa using R21.out
def RGetPost (w : World) (b : List Int) (e : Ending) (w' : World) : Prop :=
  ∃ v, e = .returned (.tuple #[.agg #[.int .i64 (rgetF b).1, .int .i64 (rgetF b).2.1, .int .i64 (rgetF b).2.2.1, .int .i64 (rgetF b).2.2.2.1, v], .int .i64 (rgetF b).2.2.2.2.2]) ∧
    Kd.S k45A 45 w' w.heap.size (fun k => w.heap.size ≤ k) v (rgetF b).2.2.2.2.1 ∧ Below w.heap.size w w'
theorem rgetF_no {b : List Int} (h : ¬ (16 ≤ b.length ∧ markOk b = true ∧ rsumOk b = true ∧ rOk b = true)) : rgetF b = (0, 0, 0, 0, [], 200) := if_neg h
theorem rgetF_yes {b : List Int} (h : 16 ≤ b.length ∧ markOk b = true ∧ rsumOk b = true ∧ rOk b = true) : rgetF b = (rV b 0, rV b 1, rV b 2, rV b 3, rP b, 0) := if_pos h
theorem rget_early (A : Option Addr) (c : Nat) (b : List Int) (w : World) (hT : Byt w A c b) (hl : b.length ≤ 1099511627776) (h : b.length < 16 ∨ markOk b = false) :
    Calls Try.prog 16 #[.slice A b.length c] w (RGetPost w b) := by
  have HG := Aside0.mk (rgetF_no (b := b) (by rintro ⟨h1, h2, _⟩; rcases h with h | h; omega; rw [h] at h2; cases h2))
  have hTd : Byt (w.alloc (.cells Z27 27)) A c b := ⟨Kd.C_below hT.1 (below_alloc (Below.refl _ _) _), hT.2⟩
  have HT := Aside0.mk hTd
  have HH := Aside0.mk h
  clear hT hTd h
  go_enter Try.func16, Try.ntmps16
  go_wp2_with fail
  refine (marked_early A c b _ HT.out hl HH.out).mono ?_
  rintro e W1 ⟨rfl, hb⟩
  have hblk : W1.heap[w.heap.size]? = some (.cells Z27 27 (0, 0)) := (hb.block _ (by simp)).trans (heap_alloc_new w _)
  have hc := blk_cell hblk
  have hf := blk_frozen hblk
  have HB := Aside0.mk (below_step (below_alloc (Below.refl w.heap.size w) _) hb)
  have HBK := Aside0.mk hblk
  clear hb hblk
  go_wp2
  obtain ⟨W12, hW⟩ : ∃ X, (((((W1.setCell ⟨w.heap.size, 0, none⟩ (.int .i64 0)).setCell ⟨w.heap.size, 1, none⟩ (.int .i64 0)).setCell ⟨w.heap.size, 2, none⟩ (.int .i64 0)).setCell ⟨w.heap.size, 3, none⟩ (.int .i64 0)).setCell ⟨w.heap.size, 4, none⟩ (.slice none 0 0)) = X := ⟨_, rfl⟩
  have h13 := Aside0.mk (show W12.heap[w.heap.size]? = some (.cells Z27 27 (0, 0)) by
    rw [← hW]
    have h := blk_set (blk_set (blk_set (blk_set (blk_set HBK.out 0 (.int .i64 0)) 1 (.int .i64 0)) 2 (.int .i64 0)) 3 (.int .i64 0)) 4 (.slice none 0 0)
    simpa only [List.setIfInBounds_toArray, List.set_cons_zero, List.set_cons_succ] using h)
  have HB2 := Aside0.mk (show Below w.heap.size w W12 by rw [← hW]; exact below_set (below_set (below_set (below_set (below_set HB.out (Nat.le_refl _)) (Nat.le_refl _)) (Nat.le_refl _)) (Nat.le_refl _)) (Nat.le_refl _))
  rw [hW]
  clear hc hf hW HBK HB
  have hc := blk_cell h13.out
  refine bodyPost_ret (v := .tuple #[.agg #[.int .i64 0, .int .i64 0, .int .i64 0, .int .i64 0, .slice none 0 0], .int .i64 200]) (by simp [results, Try.results16, go_sem, hc]) rfl ⟨.slice none 0 0, by rw [HG.out], by rw [HG.out]; exact Kd.S_nil _ _ _ _ _, HB2.out⟩
theorem refput_any (a0 a1 a2 a3 : Int) (A : Option Addr) (c : Nat) (l : List S45) (w : World) (hC : Kd.C k45 w A l.length l) (hc : l.length ≤ c) (hl : (pgsB l).length ≤ 70368744177664) :
    Calls Try.prog 11 #[.agg #[.int .i64 a0, .int .i64 a1, .int .i64 a2, .int .i64 a3, .slice A l.length c]] w fun e w' =>
      ∃ v : Value, e = .returned (.tuple #[v, .int .i64 (if (!(decide (a2 < 0) || decide (a3 < 0) || (a0 != 0) && decide (0 < l.length))) = true then 0 else 200)]) ∧ Below w.heap.size w w' := by
  by_cases h : a2 < 0 ∨ a3 < 0 ∨ a0 ≠ 0 ∧ 0 < l.length
  · refine (refput_no a0 a1 a2 a3 A c l w hC hc h).mono fun e w' ⟨he, hb⟩ => ⟨.slice none 0 0, ?_, hb⟩
    rw [he, if_neg]
    rcases h with h | h | h
    · simp [h]
    · simp [h]
    · simp [h]
  · refine (refput_ok a0 a1 a2 a3 A c l w hC hc (by omega) (by omega) (by omega) (by rw [bodyB_length]; omega)).mono fun e w' ⟨v, he, hr, hb⟩ => ⟨v, ?_, hb⟩
    rw [he, if_pos]
    have h1 : decide (a2 < 0) = false := by simp; omega
    have h2 : decide (a3 < 0) = false := by simp; omega
    rw [h1, h2]
    by_cases h0 : a0 = 0
    · simp [h0]
    · have : l.length = 0 := by omega
      simp [this]
theorem byt_mid {w : World} {A : Option Addr} {c : Nat} {b : List Int} {e : Nat} (hT : Byt w A c b) (hn : b.length = e + 8) (he : 8 ≤ e) : Byt w (A.map (fun x => x.add 8)) (c - 8) (rB b) := by
  have h1 := byt_take (n := e) hT (by omega)
  have h2 := byt_drop (n := 8) h1 (by have := hT.2; omega) (by simp; omega)
  have : rB b = (b.take e).drop 8 := by unfold rB; rw [show b.length - 8 = e by omega]
  rw [this]; exact h2
theorem Fq.fresh {w W : World} {A : Option Addr} {c : Nat} {bs : List Int} (hT : Byt w A c bs) (hB : Below w.heap.size w W) {L : List (Nat × Nat × Array Value)}
    (hL : ∀ x ∈ L, W.heap[x.1]? = some (.cells x.2.2 x.2.1 (0, 0)) ∧ w.heap.size ≤ x.1) :
    Fq w w (W.alloc (.cells #[.slice A bs.length c, .int .i64 0, .bool false] 78)) W.heap.size bs (0, false) L :=
  ⟨⟨A, c, heap_alloc_new W _, hB.size, hT⟩, below_alloc hB _, KeepBut.of_below (below_alloc hB _) _ _, fun x hx => by
    obtain ⟨h1, h2⟩ := hL x hx
    exact ⟨(Below.heap_alloc W _ _ (blk_lt h1)).trans h1, Nat.ne_of_lt (blk_lt h1), h2, h2⟩⟩
theorem Fq.below2 {w0 w W W1 : World} {g : Nat} {B : List Int} {s : Sq} {L : List (Nat × Nat × Array Value)} (h : Fq w0 w W g B s L) (hb : Below W.heap.size W W1) : Fq w0 w W1 g B s L :=
  ⟨h.1.below hb, below_step h.2.1 hb, KeepBut.trans h.2.2.1 (KeepBut.of_below hb g none) (.inl rfl), fun x hx => by
    obtain ⟨h1, h2, h3, h4⟩ := h.2.2.2 x hx
    exact ⟨(hb.block _ (blk_lt h1)).trans h1, h2, h3, h4⟩⟩
set_option maxHeartbeats 4000000 in
set_option maxRecDepth 100000 in
theorem rget_late (A : Option Addr) (c : Nat) (b : List Int) (w : World) (hT : Byt w A c b) (hby : byt b) (e : Nat) (hn : b.length = e + 8) (he : 8 ≤ e) (hl : b.length ≤ 1099511627776) (hm : markOk b = true) :
    Calls Try.prog 16 #[.slice A (e + 8) c] w (RGetPost w b) := by
  have hTd : Byt (w.alloc (.cells Z27 27)) A c b := ⟨Kd.C_below hT.1 (below_alloc (Below.refl _ _) _), hT.2⟩
  have HT := Aside0.mk hTd
  have HN := Aside0.mk hn
  have HMK := Aside0.mk hm
  have BY := Aside0.mk (byt_rB hby)
  have BYB := Aside0.mk hby
  have HMid := Aside0.mk (byt_mid hT hn he)
  have HBl := Aside0.mk (show (rB b).length = e - 8 by unfold rB; simp; omega)
  have HL := Aside0.mk hl
  have hBle : (rB b).length ≤ 1099511627776 := Nat.le_trans (rB_len b) hl
  have HBle := Aside0.mk hBle
  clear hT hTd hn hm hby hl hBle
  go_enter Try.func16, Try.ntmps16
  go_wp2_with fail
  refine (marked_late A c b _ HT.out e HN.out he (by have := HL.out; have := HN.out; omega) HMK.out).mono ?_
  rintro e1 W1 ⟨he1, hb⟩
  have hblk : W1.heap[w.heap.size]? = some (.cells Z27 27 (0, 0)) := (hb.block _ (by simp)).trans (heap_alloc_new w _)
  have hc := blk_cell hblk
  have hf := blk_frozen hblk
  have HB := Aside0.mk (below_step (below_alloc (Below.refl w.heap.size w) _) hb)
  have HBK := Aside0.mk hblk
  clear hb hblk
  cases hrs : rsumOk b with
  | false =>
    have HG := Aside0.mk (rgetF_no (b := b) (by rintro ⟨_, _, h3, _⟩; rw [hrs] at h3; cases h3))
    rw [hrs] at he1
    simp only [Bool.false_eq_true, if_false] at he1
    subst he1
    clear hrs
    go_wp2
    obtain ⟨W12, hW⟩ : ∃ X, (((((W1.setCell ⟨w.heap.size, 0, none⟩ (.int .i64 0)).setCell ⟨w.heap.size, 1, none⟩ (.int .i64 0)).setCell ⟨w.heap.size, 2, none⟩ (.int .i64 0)).setCell ⟨w.heap.size, 3, none⟩ (.int .i64 0)).setCell ⟨w.heap.size, 4, none⟩ (.slice none 0 0)) = X := ⟨_, rfl⟩
    have h13 := Aside0.mk (show W12.heap[w.heap.size]? = some (.cells Z27 27 (0, 0)) by
      rw [← hW]
      have h := blk_set (blk_set (blk_set (blk_set (blk_set HBK.out 0 (.int .i64 0)) 1 (.int .i64 0)) 2 (.int .i64 0)) 3 (.int .i64 0)) 4 (.slice none 0 0)
      simpa only [List.setIfInBounds_toArray, List.set_cons_zero, List.set_cons_succ] using h)
    have HB2 := Aside0.mk (show Below w.heap.size w W12 by rw [← hW]; exact below_set (below_set (below_set (below_set (below_set HB.out (Nat.le_refl _)) (Nat.le_refl _)) (Nat.le_refl _)) (Nat.le_refl _)) (Nat.le_refl _))
    rw [hW]
    clear hc hf hW HBK HB
    have hc := blk_cell h13.out
    refine bodyPost_ret (v := .tuple #[.agg #[.int .i64 0, .int .i64 0, .int .i64 0, .int .i64 0, .slice none 0 0], .int .i64 200]) (by simp [results, Try.results16, go_sem, hc]) rfl ⟨.slice none 0 0, by rw [HG.out], by rw [HG.out]; exact Kd.S_nil _ _ _ _ _, HB2.out⟩
  | true =>
    have HRS := Aside0.mk hrs
    rw [hrs] at he1
    simp only [if_true] at he1
    subst he1
    clear hrs
    have F0 := Fq.fresh HMid.out HB.out (L := [(w.heap.size, 27, Z27)]) (by intro x hx; rw [List.mem_singleton.1 hx]; exact ⟨HBK.out, Nat.le_refl _⟩)
    rw [HBl.out] at F0
    have H0 := Aside0.mk F0
    clear F0 HB HBK hc hf
    go_wp2_with fail
    refine (num_q (rS b 0) (rS_le b 0) (Fq.alloc H0.out _ _)).mono ?_
    rintro e2 W2 ⟨rfl, h⟩
    have hwlt : w.heap.size < W1.heap.size + 1 := by have := H0.out.lt (List.mem_cons_self); simpa using this
    have hL1 : ∀ x ∈ [(w.heap.size, 27, Z27)], x.1 ≠ W1.heap.size + 1 := by
      intro x hx; rw [List.mem_singleton.1 hx]; simp only; omega
    have HL1 := Aside0.mk hL1
    have h0 : Fq w w W2 W1.heap.size (rB b) (rS b 1) [(W1.heap.size + 1, 27, #[.int .i64 0, .int .i64 0, .int .i64 0, .int .i64 0, .slice none 0 0]), (w.heap.size, 27, Z27)] := by
      have e : ∀ o, (W1.alloc o).heap.size = W1.heap.size + 1 := fun o => by simp
      rw [e] at h
      exact h
    have hc := blk_cell (h0.blk (List.mem_cons_self))
    have hf := blk_frozen (h0.blk (List.mem_cons_self))
    have H1 := Aside0.mk (Fq.set _ _ _ h0 hL1 0 (.int .i64 (rV b 0)))
    have e0 : qv (rB b) (rS b 0) = rV b 0 := rfl
    rw [e0]
    clear h h0 hL1 e0
    go_wp2_with fail
    refine (num_q (rS b 1) (rS_le b 1) H1.out).mono ?_
    rintro e3 W3 ⟨rfl, h⟩
    have h0 : Fq w w W3 W1.heap.size (rB b) (rS b 2) [(W1.heap.size + 1, 27, #[.int .i64 (rV b 0), .int .i64 0, .int .i64 0, .int .i64 0, .slice none 0 0]), (w.heap.size, 27, Z27)] := by
      simp only [List.setIfInBounds_toArray, List.set_cons_zero, List.set_cons_succ] at h; exact h
    have hc := blk_cell (h0.blk (List.mem_cons_self))
    have hf := blk_frozen (h0.blk (List.mem_cons_self))
    have H2 := Aside0.mk (Fq.set _ _ _ h0 HL1.out 1 (.int .i64 (rV b 1)))
    have e0 : qv (rB b) (rS b 1) = rV b 1 := rfl
    rw [e0]
    clear h h0 H1 e0
    go_wp2_with fail
    refine (num_q (rS b 2) (rS_le b 2) H2.out).mono ?_
    rintro e4 W4 ⟨rfl, h⟩
    have h0 : Fq w w W4 W1.heap.size (rB b) (rS b 3) [(W1.heap.size + 1, 27, #[.int .i64 (rV b 0), .int .i64 (rV b 1), .int .i64 0, .int .i64 0, .slice none 0 0]), (w.heap.size, 27, Z27)] := by
      simp only [List.setIfInBounds_toArray, List.set_cons_zero, List.set_cons_succ] at h; exact h
    have hc := blk_cell (h0.blk (List.mem_cons_self))
    have hf := blk_frozen (h0.blk (List.mem_cons_self))
    have H3 := Aside0.mk (Fq.set _ _ _ h0 HL1.out 2 (.int .i64 (rV b 2)))
    have e0 : qv (rB b) (rS b 2) = rV b 2 := rfl
    rw [e0]
    clear h h0 H2 e0
    go_wp2_with fail
    refine (num_q (rS b 3) (rS_le b 3) H3.out).mono ?_
    rintro e5 W5 ⟨rfl, h⟩
    have h0 : Fq w w W5 W1.heap.size (rB b) (rS b 4) [(W1.heap.size + 1, 27, #[.int .i64 (rV b 0), .int .i64 (rV b 1), .int .i64 (rV b 2), .int .i64 0, .slice none 0 0]), (w.heap.size, 27, Z27)] := by
      simp only [List.setIfInBounds_toArray, List.set_cons_zero, List.set_cons_succ] at h; exact h
    have hc := blk_cell (h0.blk (List.mem_cons_self))
    have hf := blk_frozen (h0.blk (List.mem_cons_self))
    have H4 := Aside0.mk (Fq.set _ _ _ h0 HL1.out 3 (.int .i64 (rV b 3)))
    have e0 : qv (rB b) (rS b 3) = rV b 3 := rfl
    rw [e0]
    clear h h0 H3 e0
    go_wp2_with fail
    refine (count_q 25 (by omega) (rS b 4) (rS_le b 4) BY.out H4.out).mono ?_
    rintro e6 W6 ⟨rfl, h⟩
    have hm := qc_range 25 (by omega) (rB b) (rS b 4) BY.out HBle.out
    obtain ⟨n0, hn0⟩ := Int.eq_ofNat_of_zero_le hm.1
    have hn1 : n0 ≤ 43980465111 := by have := HBle.out; omega
    have HN0 := Aside0.mk (show rN b = (n0 : Int) from hn0)
    rw [hn0]
    have h6 : Fq w w W6 W1.heap.size (rB b) (rM b) [(W1.heap.size + 1, 27, #[.int .i64 (rV b 0), .int .i64 (rV b 1), .int .i64 (rV b 2), .int .i64 (rV b 3), .slice none 0 0]), (w.heap.size, 27, Z27)] := by
      simp only [List.setIfInBounds_toArray, List.set_cons_zero, List.set_cons_succ] at h; exact h
    have H6 := Aside0.mk h6
    clear h h6 H4 hm hn0 hc hf
    go_wp2_with fail
    go_loopg [9] n0 (fun kq v9 wr => ∃ (xs : List S45) (s' : Sq) (vB : Value), xs.length + kq = n0 ∧ v9 = .int .i64 (xs.length : Int) ∧ s'.1 ≤ (rB b).length ∧
      Aside0 (Fq w w wr W1.heap.size (rB b) s' [(W1.heap.size + 1, 27, #[.int .i64 (rV b 0), .int .i64 (rV b 1), .int .i64 (rV b 2), .int .i64 (rV b 3), vB]), (w.heap.size, 27, Z27)]) ∧
      Aside0 (Kd.S k45A 45 wr (W1.heap.size + 1) (fun k => W1.heap.size + 1 ≤ k) vB xs) ∧ Aside0 (xs ++ (qps (rB b) kq s').1 = rP b ∧ (qps (rB b) kq s').2 = rE b))
    case atStart => exact ⟨[], _, .slice none 0 0, by simp, rfl, qcs_le _ _ _, H6, ⟨Kd.S_nil _ _ _ _ _⟩, ⟨by unfold rP; rw [HN0.out]; rfl, by unfold rE; rw [HN0.out]; rfl⟩⟩
    case round =>
      clear H6 H0
      obtain ⟨xs, s', vB, hx, rfl, hsl, HFr, HR, HE⟩ := hrel
      have hb3 := HFr.out.blk (List.mem_cons_self)
      have hc := blk_cell hb3
      have hf := blk_frozen hb3
      obtain ⟨A', c', hbk, hg0, hT⟩ := HFr.out.rd
      have hcg := blk_cell hbk
      obtain ⟨Av, cv, rfl⟩ := Kd.S_slice HR.out
      clear hb3 hbk hT
      by_cases hend : gk = 0 ∨ s'.2 = true
      · have EQ := Aside0.mk (show xs = rP b ∧ s' = rE b from by
          have h := HE.out
          rcases hend with rfl | hs2
          · simpa [qps] using h
          · cases gk with
            | zero => simpa [qps] using h
            | succ k => simpa [qps, hs2] using h)
        have htest : (decide (xs.length < n0) = false) ∨ (decide (xs.length < n0) = true ∧ s'.2 = true) := by
          rcases Nat.lt_or_ge xs.length n0 with h1 | h1
          · exact .inr ⟨by simpa using h1, hend.resolve_left (by omega)⟩
          · exact .inl (by simpa using h1)
        clear HE hend
        rcases htest with ht | ⟨ht, hs2⟩
        all_goals
          try rw [hs2] at hcg
          try clear hs2
          go_wp2_with fail
          obtain ⟨Ar, cr, her, hcr, hCr⟩ := Kd.R_reads (R_of_A HR.out)
          injection her with h1 h2 h3
          subst h1; subst h3
          have hpl : (pgsB xs).length ≤ 70368744177664 := by have := rP_bytes HL.out BYB.out; have := HL.out; rw [EQ.out.1]; omega
          refine (refput_any (rV b 0) (rV b 1) (rV b 2) (rV b 3) Av cv xs wr hCr hcr hpl).mono ?_
          rintro e8 W8 ⟨vp, rfl, hb8⟩
          have HF8 := Aside0.mk (HFr.out.below2 hb8)
          have HR8 := Aside0.mk (Kd.S_below HR.out hb8)
          have hrp : (!(decide (rV b 2 < 0) || decide (rV b 3 < 0) || (rV b 0 != 0) && decide (0 < xs.length))) = rPut b := by unfold rPut; rw [EQ.out.1]
          rw [hrp]
          clear hrp hpl hCr hcr hb8 hc hf hcg HFr HR
          obtain ⟨A', c', hbk, hg0, hT⟩ := HF8.out.rd
          have hcg := blk_cell hbk
          have HOK := Aside0.mk (show rOk b = !(s'.2 || ((s'.1 : Int) != ((rB b).length : Int)) || !(rPut b)) by unfold rOk; rw [← EQ.out.2])
          have hbl : (rB b).length = e - 8 := HBl.out
          have hbl2 : ((rB b).length : Int) = ((e - 8 : Nat) : Int) := by rw [hbl]
          clear hbk hT
          have HCG := Aside0.mk hcg
          clear hcg
          obtain ⟨code, hcode⟩ : ∃ code : Int, code = (if rPut b = true then 0 else 200) := ⟨_, rfl⟩
          rw [← hcode]
          have HCODE := Aside0.mk hcode
          clear hcode
          go_upto_region 17 with (fail)
          go_cut [82] (fun v wc => v = .bool (!rOk b) ∧ W8 = wc)
          case first =>
            have hcg := HCG.out
            cases hs : s'.2 with
            | true =>
              rw [hs] at hcg
              have h0 : rOk b = false := by rw [HOK.out, hs]; rfl
              have H0 := Aside0.mk h0
              clear h0 hs
              go_wp2
              go_meet
              case rel => exact ⟨by rw [H0.out]; rfl, rfl⟩
            | false =>
              rw [hs] at hcg
              by_cases hend : s'.1 = e - 8
              · have hz : ((s'.1 : Int) != ((e - 8 : Nat) : Int)) = false := by rw [hend]; simp
                have hz1 : ((s'.1 : Int) == ((e - 8 : Nat) : Int)) = true := by rw [hend]; simp
                have hz2 : (s'.1 != e - 8) = false := by rw [hend]; simp
                have hz3 : (s'.1 == e - 8) = true := by rw [hend]; simp
                have h0 : rOk b = rPut b := by rw [HOK.out, hs, hbl2, hz]; simp
                have HZ := Aside0.mk hend
                have H0 := Aside0.mk h0
                clear h0 hs hend
                cases hrp : rPut b with
                | true =>
                  have hcode : code = 0 := by rw [HCODE.out, hrp]; rfl
                  subst hcode
                  have H1 := Aside0.mk hrp
                  clear hrp
                  go_wp2
                  go_meet
                  case rel => exact ⟨by rw [H0.out, H1.out]; rfl, rfl⟩
                | false =>
                  have hcode : code = 200 := by rw [HCODE.out, hrp]; rfl
                  subst hcode
                  have H1 := Aside0.mk hrp
                  clear hrp
                  go_wp2
                  go_meet
                  case rel => exact ⟨by rw [H0.out, H1.out]; rfl, rfl⟩
              · have hend' : (s'.1 : Int) ≠ ((e - 8 : Nat) : Int) := by omega
                have hz : ((s'.1 : Int) != ((e - 8 : Nat) : Int)) = true := bne_iff_ne.2 hend'
                have hz1 : ((s'.1 : Int) == ((e - 8 : Nat) : Int)) = false := beq_eq_false_iff_ne.2 hend'
                have hz2 : (s'.1 != e - 8) = true := bne_iff_ne.2 hend
                have hz3 : (s'.1 == e - 8) = false := beq_eq_false_iff_ne.2 hend
                have h0 : rOk b = false := by rw [HOK.out, hs, hbl2, hz]; simp
                have H0 := Aside0.mk h0
                clear h0 hs hend hend'
                go_wp2
                go_meet
                case rel => exact ⟨by rw [H0.out]; rfl, rfl⟩
          case rest =>
            obtain ⟨rfl, rfl⟩ := hcut
            have hb0 := HF8.out.blk (List.mem_cons_of_mem _ (List.mem_singleton.2 rfl))
            have hc0 := blk_cell hb0
            have hf0 := blk_frozen hb0
            have hc1 := blk_cell (HF8.out.blk (List.mem_cons_self))
            have hwne : ¬ w.heap.size = W1.heap.size + 1 := by omega
            clear hb0
            cases hgo : rOk b with
            | false =>
              have HG := Aside0.mk (rgetF_no (b := b) (by rintro ⟨_, _, _, h⟩; rw [hgo] at h; cases h))
              have H12 := Aside0.mk (Fq.set _ _ _ (Fq.set _ _ _ (Fq.set _ _ _ (Fq.set _ _ _ (Fq.set _ _ _ (HF8.out.sub (L' := [(w.heap.size, 27, Z27)]) (fun x hx => List.mem_cons_of_mem _ hx)) (fun x hx => absurd hx (by simp)) 0 (.int .i64 0)) (fun x hx => absurd hx (by simp)) 1 (.int .i64 0)) (fun x hx => absurd hx (by simp)) 2 (.int .i64 0)) (fun x hx => absurd hx (by simp)) 3 (.int .i64 0)) (fun x hx => absurd hx (by simp)) 4 (.slice none 0 0))
              clear hgo HOK EQ
              go_wp2
              obtain ⟨W12, hW⟩ : ∃ X, (((((W8.setCell ⟨w.heap.size, 0, none⟩ (.int .i64 0)).setCell ⟨w.heap.size, 1, none⟩ (.int .i64 0)).setCell ⟨w.heap.size, 2, none⟩ (.int .i64 0)).setCell ⟨w.heap.size, 3, none⟩ (.int .i64 0)).setCell ⟨w.heap.size, 4, none⟩ (.slice none 0 0)) = X := ⟨_, rfl⟩
              have h13 := H12.out
              rw [hW] at h13
              rw [hW]
              simp only [List.setIfInBounds_toArray, List.set_cons_zero, List.set_cons_succ] at h13
              clear hc0 hf0 hc1
              have hc := blk_cell (h13.blk (List.mem_cons_self))
              have HB := Aside0.mk h13.bel
              clear h13 hW H12 HF8 HR8
              refine bodyPost_ret (v := .tuple #[.agg #[.int .i64 0, .int .i64 0, .int .i64 0, .int .i64 0, .slice none 0 0], .int .i64 200]) (by simp [results, Try.results16, go_sem, hc]) rfl ⟨.slice none 0 0, by rw [HG.out], by rw [HG.out]; exact Kd.S_nil _ _ _ _ _, HB.out⟩
            | true =>
              have HG := Aside0.mk (rgetF_yes (b := b) ⟨by have := HN.out; omega, HMK.out, HRS.out, hgo⟩)
              have H12 := Aside0.mk (Fq.set _ _ _ (Fq.set _ _ _ (Fq.set _ _ _ (Fq.set _ _ _ (Fq.set _ _ _ (HF8.out.sub (L' := [(w.heap.size, 27, Z27)]) (fun x hx => List.mem_cons_of_mem _ hx)) (fun x hx => absurd hx (by simp)) 0 (.int .i64 (rV b 0))) (fun x hx => absurd hx (by simp)) 1 (.int .i64 (rV b 1))) (fun x hx => absurd hx (by simp)) 2 (.int .i64 (rV b 2))) (fun x hx => absurd hx (by simp)) 3 (.int .i64 (rV b 3))) (fun x hx => absurd hx (by simp)) 4 (.slice Av xs.length cv))
              have R12 := Aside0.mk (Kd.S_far (p := ⟨w.heap.size, 4, none⟩) (Kd.S_far (p := ⟨w.heap.size, 3, none⟩) (Kd.S_far (p := ⟨w.heap.size, 2, none⟩) (Kd.S_far (p := ⟨w.heap.size, 1, none⟩) (Kd.S_far (p := ⟨w.heap.size, 0, none⟩) (Kd.S_mono HR8.out (ok' := fun k => W1.heap.size + 1 ≤ k ∧ k ≠ w.heap.size) (fun k hk => ⟨hk, by omega⟩)) (fun _ hk => hk.2) (.int .i64 (rV b 0))) (fun _ hk => hk.2) (.int .i64 (rV b 1))) (fun _ hk => hk.2) (.int .i64 (rV b 2))) (fun _ hk => hk.2) (.int .i64 (rV b 3))) (fun _ hk => hk.2) (.slice Av xs.length cv))
              clear hgo HOK
              go_wp2
              obtain ⟨W12, hW⟩ : ∃ X, (((((W8.setCell ⟨w.heap.size, 0, none⟩ (.int .i64 (rV b 0))).setCell ⟨w.heap.size, 1, none⟩ (.int .i64 (rV b 1))).setCell ⟨w.heap.size, 2, none⟩ (.int .i64 (rV b 2))).setCell ⟨w.heap.size, 3, none⟩ (.int .i64 (rV b 3))).setCell ⟨w.heap.size, 4, none⟩ (.slice Av xs.length cv)) = X := ⟨_, rfl⟩
              have h13 := H12.out
              have r13 := R12.out
              rw [hW] at h13 r13
              rw [hW]
              simp only [List.setIfInBounds_toArray, List.set_cons_zero, List.set_cons_succ] at h13
              clear hc0 hf0 hc1
              have hc := blk_cell (h13.blk (List.mem_cons_self))
              have HB := Aside0.mk h13.bel
              have HRR := Aside0.mk (Kd.S_lower (Kd.S_mono r13 (ok' := fun k => w.heap.size ≤ k) (fun k hk => Nat.le_trans (Nat.le_of_lt hwlt) hk.1)) (Nat.le_of_lt hwlt))
              clear h13 r13 hW H12 R12 HF8 HR8
              refine bodyPost_ret (v := .tuple #[.agg #[.int .i64 (rV b 0), .int .i64 (rV b 1), .int .i64 (rV b 2), .int .i64 (rV b 3), .slice Av xs.length cv], .int .i64 0]) (by simp [results, Try.results16, go_sem, hc]) rfl ⟨_, by rw [HG.out], by rw [HG.out]; show Kd.S k45A 45 W12 w.heap.size _ _ (rP b); rw [← EQ.out.1]; exact HRR.out, HB.out⟩
      · obtain ⟨k, rfl⟩ : ∃ k, gk = k + 1 := ⟨gk - 1, by omega⟩
        have hs2 : s'.2 = false := by cases h : s'.2 with | true => exact absurd (.inr h) hend | false => rfl
        have EQ := Aside0.mk (show xs ++ (qpV (rB b) s' :: (qps (rB b) k (qpE (rB b) s')).1) = rP b ∧ (qps (rB b) k (qpE (rB b) s')).2 = rE b from by have h := HE.out; simpa [qps, hs2] using h)
        rw [hs2] at hcg
        clear HE hs2 hend
        have ht : decide (xs.length < n0) = true := by simp; omega
        go_wp2_with fail
        clear hcg hf hc
        have hWwr := Aside0.mk (show W1.heap.size + 1 ≤ wr.heap.size from Nat.le_of_lt (HFr.out.lt (List.mem_cons_self)))
        have hvb := Aside0.mk (fun k (hk : (Value.slice Av xs.length cv).ownBlock = some k) => ((Kd.R_bound (Kd.S_R HR.out)).1 k hk).2.2.1)
        have HRe := Aside0.mk (Kd.S_mono HR.out (ok' := fun k => W1.heap.size + 1 ≤ k ∧ k ≠ W1.heap.size) (fun k hk => ⟨hk, by omega⟩))
        refine (page_q s' hsl BY.out HFr.out HBle.out).mono ?_
        rintro e7 W7 ⟨v5, rfl, r5, h5, k5⟩
        obtain ⟨A5, c5, hv5⟩ := Kd.S_slice r5
        subst hv5
        have H5 := Aside0.mk h5
        have hc := blk_cell (h5.blk (List.mem_cons_self))
        have hf := blk_frozen (h5.blk (List.mem_cons_self))
        have hlt5 := h5.lt (List.mem_cons_self)
        have H5a := Aside0.mk (Fq.sub (L' := [(W1.heap.size + 1, 27, #[.int .i64 (rV b 0), .int .i64 (rV b 1), .int .i64 (rV b 2), .int .i64 (rV b 3), .slice Av xs.length cv]), (w.heap.size, 27, Z27)]) (Fq.alloc H5.out #[.int .i64 (qpV (rB b) s').f0, .int .i64 (qpV (rB b) s').f1, .bool (qpV (rB b) s').f2, .slice A5 (qpV (rB b) s').f3.length c5] 45) (fun x hx => List.mem_cons_of_mem _ hx))
        have R5a := Aside0.mk (Kd.S_alloc (Kd.S_oldK HRe.out k5) (.cells #[.int .i64 (qpV (rB b) s').f0, .int .i64 (qpV (rB b) s').f1, .bool (qpV (rB b) s').f2, .slice A5 (qpV (rB b) s').f3.length c5] 45))
        have RR5 := Aside0.mk (Kd.S_alloc r5 (.cells #[.int .i64 (qpV (rB b) s').f0, .int .i64 (qpV (rB b) s').f1, .bool (qpV (rB b) s').f2, .slice A5 (qpV (rB b) s').f3.length c5] 45))
        have hs5 := Aside0.mk (show W1.heap.size + 1 ≤ (W7.alloc (.cells #[.int .i64 (qpV (rB b) s').f0, .int .i64 (qpV (rB b) s').f1, .bool (qpV (rB b) s').f2, .slice A5 (qpV (rB b) s').f3.length c5] 45)).heap.size by simp; omega)
        clear h5 k5 r5
        go_wp2_with ((with_reducible refine gate_builtin (b := .append) (xs := #[.tmp 56, .tmp 58]) rfl ?_); at_builtin; go_loud (refine Kd.S_append k45A (w0 := W7.alloc _) (W1.heap.size + 1) rfl (.tmp 56) (.tmp 58) 25 45 (.agg #[(.int .i64 0), (.int .i64 0), (.bool false), (.slice none 0 0)]) 48 rfl Try.underlying25 infoA45 rfl (by decide) (by decide) (.slice Av xs.length cv) xs (qpV (rB b) s') [.int .i64 (qpV (rB b) s').f0, .int .i64 (qpV (rB b) s').f1, .bool (qpV (rB b) s').f2, .slice A5 (qpV (rB b) s').f3.length c5] (fun k => W1.heap.size + 1 ≤ k) (fun k => wr.heap.size ≤ k) rfl (by first | (go_simp; done) | (go_simp; rfl)) (k45A_mkM _ _ _ _ (Kd.S_lower RR5.out hWwr.out)) (fun k hk => ⟨Nat.le_trans hWwr.out hk, fun e => by have := hvb.out k e.symm; omega⟩) (fun k hk => Nat.le_trans hs5.out hk) (Kd.S_mono R5a.out (fun k hk => ⟨hk.1, fun h2 => Nat.lt_irrefl _ (Nat.lt_of_lt_of_le hk.2 h2)⟩)) (Below.refl _ _) hs5.out (by omega) ?_); intro v1 w6 HR6 HB6 HG6 HD6; obtain ⟨A6, c6, hv6⟩ := Kd.S_slice HR6; subst hv6; have H6 := Aside0.mk (Fq.grown H5a.out (Kd.S_R R5a.out) (Nat.le_of_lt hwlt) HG6 (H5a.out.bel.trans (HB6.mono (Nat.le_of_lt hwlt))) (by decide) (by intro x hx; simp only [List.mem_cons, List.not_mem_nil, or_false] at hx; rcases hx with rfl | rfl <;> exact (by decide : (45 : Nat) ≠ 27))); have R6 := Aside0.mk HR6; have hc6 := blk_cell (H6.out.blk (List.mem_cons_self)); have hf6 := blk_frozen (H6.out.blk (List.mem_cons_self)); clear HR6 HB6 HG6 HD6)
        have H7 := Aside0.mk (Fq.set _ _ _ H6.out HL1.out 4 (.slice A6 (xs ++ [qpV (rB b) s']).length c6))
        have R7 := Aside0.mk (Kd.S_set R6.out (H6.out.blk (List.mem_cons_self)) (by decide) 4 (.slice A6 (xs ++ [qpV (rB b) s']).length c6))
        simp only [List.setIfInBounds_toArray, List.set_cons_zero, List.set_cons_succ] at H7
        simp only [List.length_append, List.length_cons, List.length_nil, Nat.zero_add] at H7 R7
        go_roundg k
        case measure => omega
        case rel => exact ⟨xs ++ [qpV (rB b) s'], qpE (rB b) s', _, by simp; omega, by first | go_num | (simp only [List.length_append, List.length_cons, List.length_nil]; go_num), qpE_le _ _, H7, ⟨by simpa using R7.out⟩, ⟨by rw [List.append_assoc]; exact EQ.out.1, EQ.out.2⟩⟩
theorem rget_all (A : Option Addr) (c : Nat) (b : List Int) (w : World) (hT : Byt w A c b) (hby : byt b) (hl : b.length ≤ 1099511627776) :
    Calls Try.prog 16 #[.slice A b.length c] w (RGetPost w b) := by
  by_cases h : b.length < 16 ∨ markOk b = false
  · exact rget_early A c b w hT hl h
  · have h1 : 16 ≤ b.length := by omega
    have h2 : markOk b = true := by cases hm : markOk b with | true => rfl | false => exact absurd (.inr hm) h
    have h3 := rget_late A c b w hT hby (b.length - 8) (by omega) (by omega) hl h2
    rwa [show b.length - 8 + 8 = b.length by omega] at h3
theorem mem_flat {α : Type} (f : α → List Int) {l : List α} {x : α} (h : x ∈ l) : (f x).length ≤ (l.flatMap f).length := by
  induction l with
  | nil => cases h
  | cons y l ih =>
    rw [List.flatMap_cons, List.length_append]
    rcases List.mem_cons.1 h with rfl | h
    · omega
    · have := ih h; omega
def Few (l : List S45) : Prop := l.length ≤ 1099511627776 ∧ (∀ t : Nat, (rd_T45 l t).f3.length ≤ 1099511627776) ∧ ∀ t u : Nat, (rd_T48 (rd_T45 l t).f3 u).f3.length ≤ 1099511627776
theorem few_of {l : List S45} (h : (pgsB l).length ≤ 1099511627776) : Few l := by
  have hp : ∀ p ∈ l, (rwsB p.f3).length ≤ 1099511627776 := fun p hp => by
    have h1 := mem_flat pgB hp
    have h2 := pgB_length p
    have h3 : (pgsB l).length = (l.flatMap pgB).length := rfl
    omega
  have hr : ∀ p ∈ l, ∀ r ∈ p.f3, (bxsB r.f3).length ≤ 1099511627776 := fun p hpl r hr => by
    have h1 := mem_flat rwB hr
    have h2 := rwB_length r
    have h3 : (rwsB p.f3).length = (p.f3.flatMap rwB).length := rfl
    have := hp p hpl
    omega
  have hl := flat_le pgB 25 (fun p => by rw [pgB_length]; omega) l
  have z0 : ∀ (r : S48), (bxsB r.f3).length ≤ 1099511627776 → r.f3.length ≤ 1099511627776 := fun r h => by
    have := flat_le bxB 80 (fun x => by rw [bxB_length]; omega) r.f3
    have h3 : (bxsB r.f3).length = (r.f3.flatMap bxB).length := rfl
    omega
  have z1 : ∀ (p : S45), (rwsB p.f3).length ≤ 1099511627776 → p.f3.length ≤ 1099511627776 := fun p h => by
    have := flat_le rwB 18 (fun x => by rw [rwB_length]; omega) p.f3
    have h3 : (rwsB p.f3).length = (p.f3.flatMap rwB).length := rfl
    omega
  have hget : ∀ t : Nat, (rwsB (rd_T45 l (t : Int)).f3).length ≤ 1099511627776 := fun t => getD_all (P := fun p : S45 => (rwsB p.f3).length ≤ 1099511627776) (z := z45) (by decide) hp t
  have hget2 : ∀ t u : Nat, (bxsB (rd_T48 (rd_T45 l (t : Int)).f3 (u : Int)).f3).length ≤ 1099511627776 := fun t u =>
    getD_all (P := fun r : S48 => (bxsB r.f3).length ≤ 1099511627776) (z := z48) (by decide) (getD_all (P := fun p : S45 => ∀ r ∈ p.f3, (bxsB r.f3).length ≤ 1099511627776) (z := z45) (fun r h => by cases h) hr t) u
  refine ⟨?_, fun t => z1 _ (hget t), fun t u => z0 _ (hget2 t u)⟩
  have h3 : (pgsB l).length = (l.flatMap pgB).length := rfl
  omega
theorem getF_few {b : List Int} (hb : byt b) (hl : b.length ≤ 1099511627776) : Few (getF b).2.2.2.2.1 ∧ ∀ p ∈ (getF b).2.2.2.2.1, okP p := by
  by_cases h : 56 ≤ b.length ∧ markOk b = true ∧ sumOk b = true ∧ gOk b = true
  · obtain ⟨h1, h2, _⟩ := put_get hb h
    rw [getF_yes h]
    refine ⟨few_of ?_, h2.2.2.2.2.2⟩
    have h3 := congrArg List.length h1
    rw [putB_length, bodyB_length] at h3
    show (pgsB (gP b)).length ≤ _
    omega
  · rw [getF_no h]
    exact ⟨few_of (by decide), fun p hp => by cases hp⟩
def KeepV (w w1 : World) (b : Option Nat) (N : Nat) : Prop :=
  w.heap.size ≤ w1.heap.size ∧ ∀ i, i < w.heap.size → (some i ≠ b → w1.heap[i]? = w.heap[i]?) ∧
    (some i = b → ∀ cur e, w.heap[i]? = some (.cells cur e (0, 0)) → ∃ cur', w1.heap[i]? = some (.cells cur' e (0, 0)) ∧ cur'.size = cur.size ∧ cur'.toList.take N = cur.toList.take N)
theorem KeepV.refl (w : World) (b : Option Nat) (N : Nat) : KeepV w w b N := ⟨Nat.le_refl _, fun i _ => ⟨fun _ => rfl, fun _ cur e h => ⟨cur, h, rfl, rfl⟩⟩⟩
theorem KeepV.of_below {w w1 : World} (h : Below w.heap.size w w1) (b : Option Nat) (N : Nat) : KeepV w w1 b N :=
  ⟨h.size, fun i hi => ⟨fun _ => h.block i hi, fun _ cur e hc => ⟨cur, (h.block i hi).trans hc, rfl, rfl⟩⟩⟩
theorem KeepV.trans {w w1 w2 : World} {b b1 : Option Nat} {N N1 : Nat} (h : KeepV w w1 b N) (k : KeepV w1 w2 b1 N1) (hb : b1 = b ∧ N ≤ N1 ∨ ∀ i, some i = b1 → w.heap.size ≤ i) : KeepV w w2 b N := by
  refine ⟨Nat.le_trans h.1 k.1, fun i hi => ⟨fun hne => ?_, fun he cur e hc => ?_⟩⟩
  · have hi1 := Nat.lt_of_lt_of_le hi h.1
    refine ((k.2 i hi1).1 ?_).trans ((h.2 i hi).1 hne)
    rcases hb with ⟨rfl, _⟩ | hb
    · exact hne
    · intro he; have := hb i he; omega
  · have hi1 := Nat.lt_of_lt_of_le hi h.1
    obtain ⟨cur1, h1, h2, h3⟩ := (h.2 i hi).2 he cur e hc
    rcases hb with ⟨rfl, hN⟩ | hb
    · obtain ⟨cur2, k1, k2, k3⟩ := (k.2 i hi1).2 he cur1 e h1
      refine ⟨cur2, k1, k2.trans h2, ?_⟩
      rw [← h3, ← Nat.min_eq_left hN, ← List.take_take, k3, List.take_take]
    · exact ⟨cur1, ((k.2 i hi1).1 (fun he2 => by have := hb i he2; omega)).trans h1, h2, h3⟩
theorem KeepV.less {w w1 : World} {b : Option Nat} {N M : Nat} (h : KeepV w w1 b N) (hM : M ≤ N) : KeepV w w1 b M := KeepV.trans (KeepV.refl w b M) h (.inl ⟨rfl, hM⟩)
theorem KeepV.blk {w w1 : World} {b : Option Nat} {N g : Nat} {o : Obj} (h : KeepV w w1 b N) (hb : w.heap[g]? = some o) (hne : some g ≠ b) : w1.heap[g]? = some o := ((h.2 g (blk_lt hb)).1 hne).trans hb
theorem KeepV.own {w w1 : World} {v : Value} {N base e size n : Nat} {xs : List Value} (h : KeepV w w1 v.ownBlock N) (ho : w.ownsRow base e size v n xs) (hN : n * size ≤ N) : w1.ownsRow base e size v n xs := by
  refine ⟨ho.1, ?_⟩
  rcases ho.2 with h0 | ⟨g, cap, cur, rfl, hbg, hg, hnc, hcm, hcs, htake⟩
  · exact .inl h0
  · obtain ⟨cur', h1, h2, h3⟩ := (h.2 g (blk_lt hg)).2 (by simp [Value.ownBlock]) cur e hg
    refine .inr ⟨g, cap, cur', rfl, hbg, h1, hnc, hcm, h2.trans hcs, ?_⟩
    rw [← htake, ← Nat.min_eq_left hN, ← List.take_take, h3, List.take_take]
theorem R_keepV {α : Type} {d : Kd α} {e base : Nat} {w w1 : World} {ok : Nat → Prop} {v : Value} {xs : List α} {N : Nat} (h : d.R e w base ok v xs) (hk : KeepV w w1 v.ownBlock N) (hN : xs.length * d.sz ≤ N) : d.R e w1 base ok v xs := by
  obtain ⟨h0, inner, ho, hr⟩ := h
  refine ⟨h0, inner, hk.own ho hN, hr.1, fun j p hj => ?_⟩
  exact Kd.M_step (hr.2 j p hj) (fun k hk2 hlt => (hk.2 k hlt).1 hk2.2)
theorem S_keepV {α : Type} {d : Kd α} {e base : Nat} {w w1 : World} {ok : Nat → Prop} {v : Value} {xs : List α} {N : Nat} (h : Kd.S d e w base ok v xs) (hk : KeepV w w1 v.ownBlock N) (hN : xs.length * d.sz ≤ N) : Kd.S d e w1 base ok v xs := by
  obtain ⟨f, h⟩ := h
  exact ⟨f, R_keepV h hk (by rw [List.length_zipIdx]; exact hN)⟩
theorem H_keepV {α : Type} {d : Kd α} {e base : Nat} {w w1 : World} {ok oki : Nat → Prop} {u : Value} {xs : List α} {i : Int} {c : List Value} {b : Option Nat} {N : Nat} (h : Kd.H d e w base ok u xs i oki c) (hk : KeepV w w1 b N) (hb : ∀ k, b = some k → oki k) : Kd.H d e w1 base ok u xs i oki c :=
  Kd.H_step h (fun k hok hn hlt => (hk.2 k hlt).1 (fun he => hn (hb k he.symm)))
theorem append_keeps {P : Program} (w : World) (base : Nat) (t ty e : TypeId) (i : TypeInfo) (z : Value) (size bytes : Nat) (ht : P.underlying t = some (.slice e)) (hi : P.info? e = some i) (hz : i.zero = some z)
    (hsize : i.size = size) (hby : i.bytes = bytes) (hzs : z.cells.size = size) (hsz : 0 < size)
    (v : Value) (n : Nat) (xs : List Value) (hown : w.ownsRow base e size v n xs)
    (a : Addr) (m c : Nat) (news : List Value) (hl : news.length = m * size) (hnews : ∀ j u, news[j]? = some u → w.cell? (a.add j) = some u) (h1 : ∀ u ∈ news, u.oneCell' = true)
    (hm : 0 < m) (h63 : n + m ≤ maxLen) (hbytes : (n + m) * bytes ≤ 140737488355328) (hbase : base ≤ w.heap.size) {v' : Value} {w' : World}
    (hr : (Builtin.append_ #[t, t] ty #[v, .slice (some a) m c]).run P w = .ok v' w') : KeepV w w' v.ownBlock (n * size) := by
  subst hsize
  subst hby
  have hsmall : n + m ≤ 9223372036854775807 := by simp only [maxLen] at h63; omega
  have fin : ∀ v2 w2, (Builtin.append_ #[t, t] ty #[v, .slice (some a) m c]).run P w = .ok v2 w2 → KeepV w w2 v.ownBlock (n * i.size) → KeepV w w' v.ownBlock (n * i.size) := by
    intro v2 w2 h2 h3
    have h4 := hr.symm.trans h2
    simp only [Result.ok.injEq] at h4
    rw [h4.2]
    exact h3
  rcases hown.2 with ⟨rfl, rfl⟩ | ⟨g, cap, cur, rfl, hbg, hg, hnc, hcm, hcs, htake⟩
  · exact fin _ _ (run_append_nil (P := P) w t ty e i z ht hi hz a m c news hl hnews (by omega) (by omega) (by have hb := hbytes; simp only [Nat.zero_add] at hb; omega)) (KeepV.of_below (below_alloc (below_drew (Below.refl _ _)) _) _ _)
  · by_cases hroom : n + m ≤ cap
    · have hfit : n * i.size + news.length ≤ cur.size := by rw [hl, hcs, ← Nat.add_mul]; exact Nat.mul_le_mul_right _ hroom
      refine fin _ _ (run_append_room (P := P) w t ty e i ht hi g n cap cur hg a m c news hl hnews h1 hroom hfit) ⟨by simp [World.setRow], fun k hk => ⟨fun hne => setRow_other w g k _ (fun he => hne (by rw [he]; simp [Value.ownBlock])), fun he cur0 e0 hc0 => ?_⟩⟩
      have hkg : k = g := by simpa [Value.ownBlock] using he
      subst hkg
      rw [hg] at hc0
      injection hc0 with hc0
      injection hc0 with hc1 hc2
      subst hc1; subst hc2
      refine ⟨_, setRow_heap w k cur _ e _ hg, ?_, ?_⟩
      · simp only [List.size_toArray, List.length_append, List.length_take, List.length_drop, Array.length_toList]
        omega
      · have hlt : (cur.toList.take (n * i.size)).length = n * i.size := by rw [List.length_take, Array.length_toList]; omega
        simp only [List.append_assoc]
        rw [List.take_append_of_le_length (by omega), List.take_take, Nat.min_self]
    · have holds : ∀ j u, xs[j]? = some u → w.cell? ((⟨g, 0, none⟩ : Addr).add j) = some u := hown.cells (g := g) rfl
      exact fin _ _ (run_append_grow (P := P) w t ty e i z ht hi hz ⟨g, 0, none⟩ n cap xs hown.1 holds a m c news hl hnews (by omega) (by omega) (growslice_fits (by omega) hbytes)) (KeepV.of_below (below_alloc (below_drew (Below.refl _ _)) _) _ _)
theorem append_one {P : Program} {ops : Array Oper} {rest : List Oper} {o : Oper} {a : Act} {Q : Exit → Act → World → Prop} {w0 W : World} (base : Nat) (hgd : o.guard = none) (s x : Operand) (t e : TypeId) (z : Value) (size bytes : Nat)
    (ho : o.op = .call { callee := .builtin .append, args := #[s, x], argTypes := #[t, t] })
    (ht : P.underlying t = some (.slice e)) (hinfo : (P.info? e).map (fun i => (i.zero, i.size, i.bytes)) = some (some z, size, bytes)) (hz : z.cells.size = size) (hs0 : 0 < size) (hb0 : 0 < bytes)
    (v : Value) (n : Nat) (xs ys : List Value) (hs : a.eval s = v) (hx : a.eval x = .slice (some ⟨W.heap.size, 0, none⟩) 1 1) (hys : ys.length = size) (h1 : ∀ u ∈ ys, u.oneCell' = true)
    (HO : W.ownsRow base e size v n xs) (HB : Below base w0 W) (hbase : base ≤ W.heap.size) (hl : (n + 1) * bytes ≤ 140737488355328)
    (h : ∀ v1 w1, w1.ownsRow base e size v1 (n + 1) (xs ++ ys) → Below base w0 w1 → KeepV W w1 v.ownBlock (n * size) → (v1.ownBlock = v.ownBlock ∨ ∀ i, some i = v1.ownBlock → W.heap.size ≤ i) → wpList P ops Q rest (a.put o.dst v1) w1) :
    wpList P ops Q (o :: rest) a (W.alloc (.cells ys.toArray e)) := by
  obtain ⟨i0, hi, hzz⟩ := Option.map_eq_some_iff.1 hinfo
  simp only [Prod.mk.injEq] at hzz
  obtain ⟨hz0, hz1, hz2⟩ := hzz
  have hlen : n + 1 ≤ 140737488355328 := Nat.le_trans (Nat.le_mul_of_pos_right _ hb0) hl
  have hnews : ∀ j u, ys[j]? = some u → (W.alloc (.cells ys.toArray e)).cell? ((⟨W.heap.size, 0, none⟩ : Addr).add j) = some u := by
    simpa using World.news_of_block (cs := ys.toArray) (t := e) (fr := (0, 0)) (heap_alloc_new W (.cells ys.toArray e))
  refine wpList_plain hgd fun K hK => ?_
  obtain ⟨v', w', hr, h2, h3, h4, h5⟩ := run_append_own_at (P := P) (W.alloc (.cells ys.toArray e)) base t o.type e i0 z size bytes ht hi hz0 hz1 hz2 hz hs0 v n xs (HO.alloc _) ⟨W.heap.size, 0, none⟩ 1 1 ys (by rw [hys]; simp) hnews h1 (by simp only [maxLen]; omega) hl (by simp; omega)
  have hkv := append_keeps (P := P) (W.alloc (.cells ys.toArray e)) base t o.type e i0 z size bytes ht hi hz0 hz1 hz2 hz hs0 v n xs (HO.alloc _) ⟨W.heap.size, 0, none⟩ 1 1 ys (by rw [hys]; simp) hnews h1 (by omega) (by simp only [maxLen]; omega) hl (by simp; omega) hr
  unfold Oper.wp execOp
  simp only [ho, resolve, invoke, builtin, Sem.run_bind, Sem.run_pure, Result.andThen_ok, List.map_toArray, List.map_cons, List.map_nil, hs, hx, hr]
  refine hK _ _ (h v' w' h2 ((HB.alloc hbase _).grown h3 (by simp; omega) (own_base HO)) ?_ ?_)
  · exact KeepV.trans (KeepV.of_below (below_alloc (Below.refl _ _) _) v.ownBlock (n * size)) hkv (.inl ⟨rfl, Nat.le_refl _⟩)
  · rcases h5 with h5 | h5
    · exact .inl h5
    · exact .inr fun i hi => by rw [h5] at hi; injection hi with hi; simp at hi; omega
def App (base : Nat) (w0 W0 : World) (e sz : Nat) (b : Option Nat) (m : Nat) (v : Value) (t : Nat) (wr : World) : Prop :=
  ∃ inner, wr.ownsRow base e sz v (m + t) inner ∧ (v.ownBlock = b ∨ ∀ i, some i = v.ownBlock → W0.heap.size ≤ i) ∧ KeepV W0 wr b (m * sz) ∧ Below base w0 wr ∧ base ≤ wr.heap.size
theorem App.start {α : Type} {d : Kd α} {base e : Nat} {w0 W0 : World} {ok : Nat → Prop} {v : Value} {xs : List α} (h : d.R e W0 base ok v xs) (hB : Below base w0 W0) (hb : base ≤ W0.heap.size) : App base w0 W0 e d.sz v.ownBlock xs.length v 0 W0 := by
  obtain ⟨_, inner, ho, _⟩ := h
  exact ⟨inner, ho, .inl rfl, KeepV.refl _ _ _, hB, hb⟩
theorem App.slice {base : Nat} {w0 W0 wr : World} {e sz : Nat} {b : Option Nat} {m t : Nat} {v : Value} (h : App base w0 W0 e sz b m v t wr) : ∃ A c, v = .slice A (m + t) c := by
  obtain ⟨inner, ho, _⟩ := h
  rcases ho.2 with ⟨rfl, h0⟩ | ⟨g, cap, cur, rfl, _⟩
  · exact ⟨none, 0, by rw [h0]⟩
  · exact ⟨_, _, rfl⟩
theorem App.step {P : Program} {ops : Array Oper} {rest : List Oper} {o : Oper} {a : Act} {Q : Exit → Act → World → Prop} {w0 W0 W : World} {base : Nat} (hgd : o.guard = none) (s x : Operand) (t e : TypeId) (z : Value) (size bytes : Nat)
    (ho : o.op = .call { callee := .builtin .append, args := #[s, x], argTypes := #[t, t] })
    (ht : P.underlying t = some (.slice e)) (hinfo : (P.info? e).map (fun i => (i.zero, i.size, i.bytes)) = some (some z, size, bytes)) (hz : z.cells.size = size) (hs0 : 0 < size) (hb0 : 0 < bytes)
    {b : Option Nat} {m k : Nat} (v : Value) (ys : List Value) (hs : a.eval s = v) (hx : a.eval x = .slice (some ⟨W.heap.size, 0, none⟩) 1 1) (hys : ys.length = size) (h1 : ∀ u ∈ ys, u.oneCell' = true)
    (HA : App base w0 W0 e size b m v k W) (hl : (m + k + 1) * bytes ≤ 140737488355328)
    (h : ∀ v1 w1, App base w0 W0 e size b m v1 (k + 1) w1 → wpList P ops Q rest (a.put o.dst v1) w1) :
    wpList P ops Q (o :: rest) a (W.alloc (.cells ys.toArray e)) := by
  obtain ⟨inner, hown, hat, hkv, hB, hb⟩ := HA
  refine append_one base hgd s x t e z size bytes ho ht hinfo hz hs0 hb0 v (m + k) inner ys hs hx hys h1 hown hB hb hl ?_
  intro v1 w1 h2 h3 h4 h5
  refine h v1 w1 ⟨_, h2, ?_, KeepV.trans hkv h4 ?_, h3, Nat.le_trans hb h4.1⟩
  · rcases h5 with h5 | h5
    · rcases hat with hat | hat
      · exact .inl (h5.trans hat)
      · exact .inr fun i hi => hat i (by rw [← h5]; exact hi)
    · exact .inr fun i hi => Nat.le_trans hkv.1 (h5 i hi)
  · rcases hat with hat | hat
    · exact .inl ⟨hat, Nat.mul_le_mul_right _ (by omega)⟩
    · exact .inr hat
def mkX (i k j : Nat) : S50 := ⟨(i : Int), (k : Int), ⟨#[]⟩, (j : Int), 0, 0, 0, 0, 0, 0⟩
def gdR (i k : Nat) (r : S48) : Prop := r.f0 = -5 - (k : Int) ∧ ∀ j, j < r.f3.length → rd_T50 r.f3 (j : Int) = mkX i k j
def gdP (i : Nat) (p : S45) : Prop := p.f0 = -5 - (i : Int) ∧ p.f3.length ≤ 1099511627776 ∧ ∀ k, k < p.f3.length → gdR i k (rd_T48 p.f3 (k : Int))
theorem rd50_set (l : List S50) (j t : Nat) (x : S50) (hj : j < l.length) : rd_T50 (l.set j x) (t : Int) = if t = j then x else rd_T50 l (t : Int) := by
  unfold rd_T50
  simp only [Int.toNat_natCast, List.getD_eq_getElem?_getD, List.getElem?_set]
  by_cases h : j = t
  · subst h; simp [hj]
  · rw [if_neg h, if_neg (fun h2 => h h2.symm)]
theorem rd48_set (l : List S48) (j t : Nat) (x : S48) (hj : j < l.length) : rd_T48 (l.set j x) (t : Int) = if t = j then x else rd_T48 l (t : Int) := by
  unfold rd_T48
  simp only [Int.toNat_natCast, List.getD_eq_getElem?_getD, List.getElem?_set]
  by_cases h : j = t
  · subst h; simp [hj]
  · rw [if_neg h, if_neg (fun h2 => h h2.symm)]
theorem rd45_set (l : List S45) (j t : Nat) (x : S45) (hj : j < l.length) : rd_T45 (l.set j x) (t : Int) = if t = j then x else rd_T45 l (t : Int) := by
  unfold rd_T45
  simp only [Int.toNat_natCast, List.getD_eq_getElem?_getD, List.getElem?_set]
  by_cases h : j = t
  · subst h; simp [hj]
  · rw [if_neg h, if_neg (fun h2 => h h2.symm)]
section
variable {w0 w wr w1 : World} {base : Nat} {ok oki okk : Nat → Prop} {C : Array Value} {v v3 v4 : Value} {P : List S45} {R : List S48} {X : List S50} {i k : Int} {c c' : List Value}
structure In1 (w0 w : World) (base : Nat) (ok : Nat → Prop) (C : Array Value) (v : Value) (P : List S45) (wr : World) : Prop where
  gb : wr.heap[w.heap.size]? = some (.cells C 27 (0, 0))
  s : Kd.S k45A 45 wr base ok v P
  kept : Kept w wr ok
  bel : Below base w0 wr
  hb : base ≤ wr.heap.size
structure In2 (w0 w : World) (base : Nat) (ok : Nat → Prop) (C : Array Value) (v : Value) (P : List S45) (i : Int) (oki : Nat → Prop) (c : List Value) (v3 : Value) (R : List S48) (wr : World) : Prop where
  gb : wr.heap[w.heap.size]? = some (.cells C 27 (0, 0))
  h : Kd.H k45A 45 wr base ok v P i oki c
  s : Kd.S k48 48 wr base oki v3 R
  kept : Kept w wr ok
  bel : Below base w0 wr
  hb : base ≤ wr.heap.size
structure In3 (w0 w : World) (base : Nat) (ok : Nat → Prop) (C : Array Value) (v : Value) (P : List S45) (i : Int) (oki : Nat → Prop) (c : List Value) (v3 : Value) (R : List S48) (k : Int) (okk : Nat → Prop) (c' : List Value) (v4 : Value) (X : List S50) (wr : World) : Prop where
  gb : wr.heap[w.heap.size]? = some (.cells C 27 (0, 0))
  h : Kd.H k45A 45 wr base ok v P i oki c
  h2 : Kd.H k48 48 wr base oki v3 R k okk c'
  r : k50.R 50 wr base okk v4 X
  kept : Kept w wr ok
  bel : Below base w0 wr
  hb : base ≤ wr.heap.size
theorem kept_ev {b : Option Nat} (hk : Kept w wr ok) (h : ∀ i, i < wr.heap.size → some i ≠ b → w1.heap[i]? = wr.heap[i]?) (hs : wr.heap.size ≤ w1.heap.size) (hb : ∀ i, b = some i → ok i) : Kept w w1 ok :=
  ⟨Nat.le_trans hk.1 hs, fun i hi hn => (h i (Nat.lt_of_lt_of_le hi hk.1) (fun he => hn (hb i he.symm))).trans (hk.2 i hi hn)⟩
theorem In3.keepV (hok : ∀ k, ok k → k < w.heap.size) (h : In3 w0 w base ok C v P i oki c v3 R k okk c' v4 X wr) {N : Nat} (hk : KeepV wr w1 v4.ownBlock N) (hN : X.length * 10 ≤ N) (hB : Below base w0 w1) : In3 w0 w base ok C v P i oki c v3 R k okk c' v4 X w1 := by
  have hb : ∀ i, v4.ownBlock = some i → okk i := h.r.1
  have hb2 : ∀ i, v4.ownBlock = some i → oki i := fun i hi => h.h2.1 i (hb i hi)
  have hb3 : ∀ i, v4.ownBlock = some i → ok i := fun i hi => h.h.1 i (hb2 i hi)
  exact ⟨hk.blk h.gb (fun he => Nat.lt_irrefl _ (hok _ (hb3 _ he.symm))), H_keepV h.h hk hb2, H_keepV h.h2 hk hb, R_keepV h.r hk hN, kept_ev h.kept (fun i hi => (hk.2 i hi).1) hk.1 hb3, hB, Nat.le_trans h.hb hk.1⟩
theorem In3.grown (hok : ∀ k, ok k → k < w.heap.size) (h : In3 w0 w base ok C v P i oki c v3 R k okk c' v4 X wr) {X' : List S50} (hg : wr.grownBy w1 v4.ownBlock) (hr : k50.R 50 w1 base okk v4 X') (hB : Below base w0 w1) : In3 w0 w base ok C v P i oki c v3 R k okk c' v4 X' w1 := by
  have hb : ∀ i, v4.ownBlock = some i → okk i := h.r.1
  have hb2 : ∀ i, v4.ownBlock = some i → oki i := fun i hi => h.h2.1 i (hb i hi)
  have hb3 : ∀ i, v4.ownBlock = some i → ok i := fun i hi => h.h.1 i (hb2 i hi)
  exact ⟨blk_grown h.gb hg (fun he => Nat.lt_irrefl _ (hok _ (hb3 _ he.symm))), Kd.H_grown h.h hg hb2, Kd.H_grown h.h2 hg hb, hr, kept_ev h.kept hg.block hg.size hb3, hB, Nat.le_trans h.hb hg.size⟩
theorem In2.keepV (hok : ∀ k, ok k → k < w.heap.size) (h : In2 w0 w base ok C v P i oki c v3 R wr) {N : Nat} (hk : KeepV wr w1 v3.ownBlock N) (hN : R.length * 4 ≤ N) (hB : Below base w0 w1) : In2 w0 w base ok C v P i oki c v3 R w1 := by
  have hb2 : ∀ i, v3.ownBlock = some i → oki i := (Kd.S_R h.s).1
  have hb3 : ∀ i, v3.ownBlock = some i → ok i := fun i hi => h.h.1 i (hb2 i hi)
  exact ⟨hk.blk h.gb (fun he => Nat.lt_irrefl _ (hok _ (hb3 _ he.symm))), H_keepV h.h hk hb2, S_keepV h.s hk hN, kept_ev h.kept (fun i hi => (hk.2 i hi).1) hk.1 hb3, hB, Nat.le_trans h.hb hk.1⟩
theorem In3.close (hok : ∀ k, ok k → k < w.heap.size) (h : In3 w0 w base ok C v P i oki c v3 R k okk c' v4 X wr) {R' : List S48} (hg : wr.grownBy w1 v3.ownBlock) (hv : ∀ j, v3.ownBlock = some j → oki j) (hs : Kd.S k48 48 w1 base oki v3 R') (hB : Below base w0 w1) : In2 w0 w base ok C v P i oki c v3 R' w1 := by
  have hb3 : ∀ i, v3.ownBlock = some i → ok i := fun i hi => h.h.1 i (hv i hi)
  exact ⟨blk_grown h.gb hg (fun he => Nat.lt_irrefl _ (hok _ (hb3 _ he.symm))), Kd.H_grown h.h hg hv, hs, kept_ev h.kept hg.block hg.size hb3, hB, Nat.le_trans h.hb hg.size⟩
theorem In2.close (hok : ∀ k, ok k → k < w.heap.size) (h : In2 w0 w base ok C v P i oki c v3 R wr) {P' : List S45} (hg : wr.grownBy w1 v.ownBlock) (hv : ∀ j, v.ownBlock = some j → ok j) (hs : Kd.S k45A 45 w1 base ok v P') (hB : Below base w0 w1) : In1 w0 w base ok C v P' w1 := by
  exact ⟨blk_grown h.gb hg (fun he => Nat.lt_irrefl _ (hok _ (hv _ he.symm))), hs, kept_ev h.kept hg.block hg.size hv, hB, Nat.le_trans h.hb hg.size⟩
theorem In1.keepV (hok : ∀ k, ok k → k < w.heap.size) (h : In1 w0 w base ok C v P wr) {N : Nat} (hk : KeepV wr w1 v.ownBlock N) (hN : P.length * 4 ≤ N) (hB : Below base w0 w1) : In1 w0 w base ok C v P w1 := by
  have hb3 : ∀ i, v.ownBlock = some i → ok i := (Kd.S_R h.s).1
  exact ⟨hk.blk h.gb (fun he => Nat.lt_irrefl _ (hok _ (hb3 _ he.symm))), S_keepV h.s hk hN, kept_ev h.kept (fun i hi => (hk.2 i hi).1) hk.1 hb3, hB, Nat.le_trans h.hb hk.1⟩
end
theorem infoP45 : (Try.prog.info? 45).map (fun i => (i.zero, i.size, i.bytes)) = some (some (.agg #[(.int .i64 0), (.int .i64 0), (.bool false), (.slice none 0 0)]), 4, 48) := by kernel_rfl
theorem info50s : (Try.prog.info? 50).map (·.size) = some 10 := by kernel_rfl
theorem info3s : (Try.prog.info? 3).map (·.size) = some 1 := by kernel_rfl
set_option maxHeartbeats 4000000 in
set_option maxRecDepth 100000 in
theorem spoils_calls (a0 a1 a2 a3 : Int) (Av : Option Addr) (cv : Nat) (P : List S45) (w0 w : World) (base : Nat) (ok : Nat → Prop) (hS : Kd.S k45A 45 w base ok (.slice Av P.length cv) P) (hB : Below base w0 w) (hb : base ≤ w.heap.size)
    (hz : P.length ≤ 1099511627776) (hz2 : ∀ t : Nat, (rd_T45 P t).f3.length ≤ 1099511627776) (hz3 : ∀ t u : Nat, (rd_T48 (rd_T45 P t).f3 u).f3.length ≤ 1099511627776) :
    Calls Try.prog 17 #[.agg #[.int .i64 a0, .int .i64 a1, .int .i64 a2, .int .i64 a3, .slice Av P.length cv]] w fun e w' => e = .returned (.bool true) ∧ Kept w w' ok ∧ Below base w0 w' := by
  obtain ⟨ok1, hok1⟩ : ∃ ok1 : Nat → Prop, ok1 = fun k => ok k ∧ k < w.heap.size := ⟨_, rfl⟩
  have hS1 : Kd.S k45A 45 w base ok1 (.slice Av P.length cv) P := by rw [hok1]; exact Kd.S_mono (Kd.S_bound hS) (fun k hk => ⟨hk.1, hk.2.2.1⟩)
  have hlt : ∀ k, ok1 k → k < w.heap.size := fun k hk => by rw [hok1] at hk; exact hk.2
  have hle : ∀ k, ok1 k → ok k := fun k hk => by rw [hok1] at hk; exact hk.1
  have HLT := Aside0.mk hlt
  have HLE := Aside0.mk hle
  obtain ⟨n, hn⟩ : ∃ n, n = P.length := ⟨_, rfl⟩
  obtain ⟨C, hC⟩ : ∃ C : Array Value, C = #[.int .i64 a0, .int .i64 a1, .int .i64 a2, .int .i64 a3, .slice Av n cv] := ⟨_, rfl⟩
  rw [← hn] at hS1 hz ⊢
  have HN := Aside0.mk hn
  have HC := Aside0.mk hC
  have H0 := Aside0.mk (show In1 w0 w base ok1 C (.slice Av n cv) P (w.alloc (.cells C 27)) from ⟨heap_alloc_new w _, Kd.S_alloc hS1 _, Kept.of_below (below_alloc (Below.refl _ _) _) _, hB.alloc hb _, Nat.le_trans hb (by simp)⟩)
  have HZ := Aside0.mk (And.intro hz2 hz3)
  rw [hC] at H0
  clear hok1 hS hS1 hlt hle hB hb hn hC hz2 hz3
  go_enter Try.func17, Try.ntmps17
  go_wp2_with fail
  go_loopg [3] n (fun kq s3 wr => ∃ (i : Nat) (P1 : List S45), i + kq = n ∧ s3 = .int .i64 (i : Int) ∧ Aside0 (In1 w0 w base ok1 C (.slice Av n cv) P1 wr) ∧ Aside0 (P1.length = n ∧ (∀ t, t < i → gdP t (rd_T45 P1 (t : Int))) ∧ ∀ t, i ≤ t → rd_T45 P1 (t : Int) = rd_T45 P (t : Int)))
  case atStart => exact ⟨0, P, by omega, rfl, by rw [HC.out]; exact H0, ⟨HN.out.symm, fun t ht => by omega, fun t _ => rfl⟩⟩
  case round =>
    clear H0
    obtain ⟨i, P1, hi, rfl, HI, HP⟩ := hrel
    by_cases hlast : i < n
    · obtain ⟨ad, rfl⟩ : ∃ ad, Av = some ad := by
        cases Av with
        | some ad => exact ⟨ad, rfl⟩
        | none => exact absurd (Kd.R_reads' (Kd.S_R HI.out.s)).2.2 (fun h => by obtain ⟨ad, he, _⟩ := h.2.2 (by rw [HP.out.1]; omega); cases he)
      obtain ⟨g, rfl⟩ := Kd.R_head (Kd.S_R HI.out.s)
      obtain ⟨oki, c, hcl, hM, hcc, hfr, hoki, hH⟩ := Kd.S_elem HI.out.s z45 (i : Int) (by omega) (by omega)
      obtain ⟨v3, rfl, hS3⟩ := k45A_openM hM
      have hrd : (P1.getD (i : Int).toNat z45) = rd_T45 P (i : Int) := HP.out.2.2 i (Nat.le_refl _)
      rw [hrd] at hS3 hcc hH hM
      obtain ⟨p, hp⟩ : ∃ p, p = rd_T45 P (i : Int) := ⟨_, rfl⟩
      rw [← hp] at hS3 hcc hH hM
      have hm2 : p.f3.length ≤ 1099511627776 := by rw [hp]; exact HZ.out.1 i
      have HM2 := Aside0.mk (show ∀ u : Nat, (rd_T48 p.f3 u).f3.length ≤ 1099511627776 by rw [hp]; exact HZ.out.2 i)
      obtain ⟨A3, c3, rfl⟩ := Kd.S_slice hS3
      have hgok := Aside0.mk (show ∀ j, (Value.slice (some ⟨g, 0, none⟩) n cv).ownBlock = some j → ok1 j from (Kd.S_R HI.out.s).1)
      have H2 := Aside0.mk (show In2 w0 w base ok1 #[.int .i64 a0, .int .i64 a1, .int .i64 a2, .int .i64 a3, .slice (some ⟨g, 0, none⟩) n cv] (.slice (some ⟨g, 0, none⟩) n cv) P1 (i : Int) oki [.int .i64 p.f0, .int .i64 p.f1, .bool p.f2, .slice A3 p.f3.length c3] (.slice A3 p.f3.length c3) p.f3 wr from ⟨by rw [← HC.out]; exact HI.out.gb, hH, hS3, HI.out.kept, HI.out.bel, HI.out.hb⟩)
      have hcell := blk_cell H2.out.gb
      have hcell3 : wr.cell? ⟨g, i * 4 + 3, none⟩ = some (.slice A3 p.f3.length c3) := hcc 3 _ rfl
      have PO := Aside0.mk hp
      have HD := Aside0.mk (show k45A.sz = 4 from rfl)
      clear HI hcl hM hcc hfr hoki hH hS3 hrd hp
      go_wp2_with fail
      obtain ⟨wi, rfl⟩ : ∃ wi : World, wi = wr := ⟨_, rfl⟩
      clear hcell hcell3
      go_loopg [5] p.f3.length (fun kq s5 wr => ∃ (k : Nat) (R1 : List S48), k + kq = p.f3.length ∧ s5 = .int .i64 (k : Int) ∧ Aside0 (In2 w0 w base ok1 #[.int .i64 a0, .int .i64 a1, .int .i64 a2, .int .i64 a3, .slice (some ⟨g, 0, none⟩) n cv] (.slice (some ⟨g, 0, none⟩) n cv) P1 (i : Int) oki [.int .i64 p.f0, .int .i64 p.f1, .bool p.f2, .slice A3 p.f3.length c3] (.slice A3 p.f3.length c3) R1 wr) ∧ Aside0 (R1.length = p.f3.length ∧ (∀ t, t < k → gdR i t (rd_T48 R1 (t : Int))) ∧ ∀ t, k ≤ t → rd_T48 R1 (t : Int) = rd_T48 p.f3 (t : Int)))
      case atStart => exact ⟨0, p.f3, by omega, rfl, H2, ⟨rfl, fun t ht => by omega, fun t _ => rfl⟩⟩
      case round =>
        clear H2
        obtain ⟨k, R1, hk, rfl, H2, HR⟩ := hrel
        by_cases hlk : k < p.f3.length
        · obtain ⟨ad3, rfl⟩ : ∃ ad3, A3 = some ad3 := by
            cases A3 with
            | some ad => exact ⟨ad, rfl⟩
            | none => exact absurd (Kd.R_reads' (Kd.S_R H2.out.s)).2.2 (fun h => by obtain ⟨ad, he, _⟩ := h.2.2 (by rw [HR.out.1]; omega); cases he)
          obtain ⟨gr, rfl⟩ := Kd.R_head (Kd.S_R H2.out.s)
          obtain ⟨okk, c', hcl, hM, hcc, hfr, hokk, hH2⟩ := Kd.S_elem H2.out.s z48 (k : Int) (by omega) (by omega)
          obtain ⟨v4, rfl, hR4⟩ := k48_openM hM
          have hrd : (R1.getD (k : Int).toNat z48) = rd_T48 p.f3 (k : Int) := HR.out.2.2 k (Nat.le_refl _)
          rw [hrd] at hR4 hcc hH2 hM
          obtain ⟨r, hr⟩ : ∃ r, r = rd_T48 p.f3 (k : Int) := ⟨_, rfl⟩
          rw [← hr] at hR4 hcc hH2 hM
          have hm3 : r.f3.length ≤ 1099511627776 := by rw [hr]; exact HM2.out k
          obtain ⟨A4, c4, rfl⟩ := Kd.R_slice hR4
          have hrok := Aside0.mk (show ∀ j, (Value.slice (some ⟨gr, 0, none⟩) p.f3.length c3).ownBlock = some j → oki j from (Kd.S_R H2.out.s).1)
          have H3 := Aside0.mk (show In3 w0 w base ok1 #[.int .i64 a0, .int .i64 a1, .int .i64 a2, .int .i64 a3, .slice (some ⟨g, 0, none⟩) n cv] (.slice (some ⟨g, 0, none⟩) n cv) P1 (i : Int) oki [.int .i64 p.f0, .int .i64 p.f1, .bool p.f2, .slice (some ⟨gr, 0, none⟩) p.f3.length c3] (.slice (some ⟨gr, 0, none⟩) p.f3.length c3) R1 (k : Int) okk [.int .i64 r.f0, .bool r.f1, .bool r.f2, .slice A4 r.f3.length c4] (.slice A4 r.f3.length c4) r.f3 wr from ⟨H2.out.gb, H2.out.h, hH2, hR4, H2.out.kept, H2.out.bel, H2.out.hb⟩)
          have hcell3 : wr.cell? ⟨gr, k * 4 + 3, none⟩ = some (.slice A4 r.f3.length c4) := hcc 3 _ rfl
          have RO := Aside0.mk hr
          clear H2 hcl hM hcc hfr hokk hH2 hR4 hrd hr
          go_wp2_with fail
          obtain ⟨wk, rfl⟩ : ∃ wk : World, wk = wr := ⟨_, rfl⟩
          clear hcell3
          go_loopg [7] r.f3.length (fun kq s7 wr => ∃ (j : Nat) (X1 : List S50), j + kq = r.f3.length ∧ s7 = .int .i64 (j : Int) ∧ Aside0 (In3 w0 w base ok1 #[.int .i64 a0, .int .i64 a1, .int .i64 a2, .int .i64 a3, .slice (some ⟨g, 0, none⟩) n cv] (.slice (some ⟨g, 0, none⟩) n cv) P1 (i : Int) oki [.int .i64 p.f0, .int .i64 p.f1, .bool p.f2, .slice (some ⟨gr, 0, none⟩) p.f3.length c3] (.slice (some ⟨gr, 0, none⟩) p.f3.length c3) R1 (k : Int) okk [.int .i64 r.f0, .bool r.f1, .bool r.f2, .slice A4 r.f3.length c4] (.slice A4 r.f3.length c4) X1 wr) ∧ Aside0 (X1.length = r.f3.length ∧ ∀ t, t < j → rd_T50 X1 (t : Int) = mkX i k t))
          case atStart => exact ⟨0, r.f3, by omega, rfl, H3, ⟨rfl, fun t ht => by omega⟩⟩
          case round =>
            clear H3
            obtain ⟨j, X1, hj, rfl, H3, HX⟩ := hrel
            by_cases hlj : j < r.f3.length
            · obtain ⟨ad4, rfl⟩ : ∃ ad4, A4 = some ad4 := by
                cases A4 with
                | some ad => exact ⟨ad, rfl⟩
                | none => exact absurd (Kd.R_reads' H3.out.r).2.2 (fun h => by obtain ⟨ad, he, _⟩ := h.2.2 (by rw [HX.out.1]; omega); cases he)
              obtain ⟨gx, rfl⟩ := Kd.R_head H3.out.r
              have hjl : (j : Int) < (r.f3.length : Int) := by omega
              obtain ⟨cx, hxl, _, hxc, _⟩ := Kd.R_elem H3.out.r z50 (j : Int) (by omega) hjl
              have hMx : k50.M wr base (fun _ => False) (mkX i k j) (cx.take 0 ++ [.int .i64 (i : Int), .int .i64 (k : Int), .string ⟨#[]⟩, .int .i64 (j : Int), .int .i64 0, .int .i64 0, .int .i64 0, .int .i64 0, .int .i64 0, .int .i64 0] ++ cx.drop (0 + ([.int .i64 (i : Int), .int .i64 (k : Int), .string ⟨#[]⟩, .int .i64 (j : Int), .int .i64 0, .int .i64 0, .int .i64 0, .int .i64 0, .int .i64 0, .int .i64 0] : List Value).length)) := by
                rw [List.drop_eq_nil_of_le (by rw [hxl]; exact Nat.le_refl 10), List.append_nil, List.take_zero, List.nil_append]
                exact k50_mkM _ _ _ (mkX i k j)
              have HXX := Aside0.mk (And.intro hxl (And.intro hxc hMx))
              clear hxl hxc hMx
              go_wp2_with (((with_reducible refine gate_ (.store 50 (.tmp 52) (.tmp 51)) rfl ?_); go_loud (refine Kd.R_store k50 (w0 := w0) base rfl rfl 50 (.tmp 52) (.tmp 51) rfl 50 (o' := j * 10) (j : Int) 0 X1 (mkX i k j) (.agg #[.int .i64 (i : Int), .int .i64 (k : Int), .string ⟨#[]⟩, .int .i64 (j : Int), .int .i64 0, .int .i64 0, .int .i64 0, .int .i64 0, .int .i64 0, .int .i64 0]) [.int .i64 (i : Int), .int .i64 (k : Int), .string ⟨#[]⟩, .int .i64 (j : Int), .int .i64 0, .int .i64 0, .int .i64 0, .int .i64 0, .int .i64 0, .int .i64 0] cx okk (fun _ => False) rfl rfl rfl rfl info50s (k50.K_one (k50_mk wr (mkX i k j))) H3.out.r (by omega) hjl HXX.out.1 HXX.out.2.1 (Nat.le_refl 10) HXX.out.2.2 (fun _ h => h.elim) H3.out.bel ?_); intro w5 hr5 hb5 hg5; have H4 := Aside0.mk (H3.out.grown HLT.out hg5 hr5 hb5); clear hr5 hb5 hg5))
              go_roundg (r.f3.length - (j + 1))
              case measure => omega
              case rel => exact ⟨j + 1, X1.set j (mkX i k j), by omega, by go_num, H4, ⟨by rw [List.length_set]; exact HX.out.1, fun t ht => by
                rw [rd50_set _ _ _ _ (by rw [HX.out.1]; omega)]
                by_cases h : t = j
                · rw [if_pos h, h]
                · rw [if_neg h]; exact HX.out.2 t (by omega)⟩⟩
            · have hje : j = r.f3.length := by omega
              subst hje
              clear hj hlj
              have HXa := Aside0.mk (show X1.length = r.f3.length ∧ ∀ t, t < r.f3.length → rd_T50 X1 (t : Int) = mkX i k t from ⟨HX.out.1, fun t ht => HX.out.2 t (by omega)⟩)
              have HA0 := Aside0.mk (show App base w0 wr 50 10 (Value.slice A4 r.f3.length c4).ownBlock r.f3.length (.slice A4 r.f3.length c4) 0 wr from by have h := App.start H3.out.r H3.out.bel H3.out.hb; rw [HX.out.1] at h; exact h)
              clear HX
              go_wp2_with fail
              obtain ⟨wj, rfl⟩ : ∃ wj : World, wj = wr := ⟨_, rfl⟩
              go_loopg [6, 8] 9 (fun kq s6 s8 wr => ∃ (t : Nat), t + kq = 9 ∧ s8 = .int .i64 (t : Int) ∧ Aside0 (App base w0 wj 50 10 (Value.slice A4 r.f3.length c4).ownBlock r.f3.length s6 t wr))
              case atStart => exact ⟨0, by omega, rfl, HA0⟩
              case round =>
                clear HA0
                obtain ⟨t, ht, rfl, HA⟩ := hrel
                obtain ⟨As, cs, rfl⟩ := HA.out.slice
                by_cases hlt9 : t < 9
                · go_wp2_with (((with_reducible refine gate_builtin (b := .append) (xs := #[.tmp 57, .tmp 59]) rfl ?_); at_builtin; go_loud (refine App.step rfl (.tmp 57) (.tmp 59) 46 50 (bxVal z50) 10 88 rfl Try.underlying46 info50 rfl (by decide) (by decide) (.slice As (r.f3.length + t) cs) [.int .i64 (-9000), .int .i64 0, .string ⟨#[]⟩, .int .i64 0, .int .i64 0, .int .i64 0, .int .i64 0, .int .i64 0, .int .i64 0, .int .i64 0] rfl (by first | (go_simp; done) | (go_simp; rfl)) rfl (k50.K_one (k50_mk wr (⟨-9000, 0, ⟨#[]⟩, 0, 0, 0, 0, 0, 0, 0⟩ : S50))) HA.out (by omega) ?_); intro v1 w6 HA6; have HA7 := Aside0.mk HA6; clear HA6))
                  go_roundg (9 - (t + 1))
                  case measure => omega
                  case rel => exact ⟨t + 1, by omega, by go_num, HA7⟩
                · have H4 := Aside0.mk (H3.out.keepV HLT.out HA.out.choose_spec.2.2.1 (by rw [HXa.out.1]; exact Nat.le_refl _) HA.out.choose_spec.2.2.2.1)
                  have hMr := Aside0.mk (k48_mkM wr base okk (⟨-5 - (k : Int), r.f1, r.f2, X1⟩ : S48) H4.out.r)
                  clear HA H3
                  go_wp2_with (((with_reducible refine gate_ (.store 3 (.tmp 66) (.tmp 64)) rfl ?_); go_loud (refine Kd.H_store k48 (w0 := w0) base rfl rfl 3 (.tmp 66) (.tmp 64) rfl 48 (o' := k * 4) (k : Int) 0 R1 (⟨-5 - (k : Int), r.f1, r.f2, X1⟩ : S48) (.int .i64 (-5 - (k : Int))) [.int .i64 (-5 - (k : Int))] [.int .i64 r.f0, .bool r.f1, .bool r.f2, .slice A4 r.f3.length c4] oki okk okk rfl rfl rfl rfl info3s (by intro q hq; rw [List.mem_singleton.1 hq]; rfl) H4.out.h2 (by omega) (by omega) (by show 1 ≤ 4; omega) hMr.out (fun _ h => h) H4.out.bel ?_); intro w7 hs7 hb7 hg7; have H5 := Aside0.mk (H4.out.close HLT.out hg7 hrok.out hs7 hb7); clear hs7 hb7 hg7))
                  go_roundg (p.f3.length - (k + 1))
                  case measure => omega
                  case rel => exact ⟨k + 1, R1.set k (⟨-5 - (k : Int), r.f1, r.f2, X1⟩ : S48), by omega, by go_num, H5, ⟨by rw [List.length_set]; exact HR.out.1, fun t ht => by
                      rw [rd48_set _ _ _ _ (by rw [HR.out.1]; omega)]
                      by_cases h : t = k
                      · rw [if_pos h, h]
                        exact ⟨rfl, fun j hj => HXa.out.2 j (by rw [← HXa.out.1]; exact hj)⟩
                      · rw [if_neg h]; exact HR.out.2.1 t (by omega), fun t ht => by
                      rw [rd48_set _ _ _ _ (by rw [HR.out.1]; omega), if_neg (by omega)]
                      exact HR.out.2.2 t (by omega)⟩⟩
        · have hke : k = p.f3.length := by omega
          subst hke
          clear hk hlk
          have HRa := Aside0.mk (show R1.length = p.f3.length ∧ ∀ t, t < p.f3.length → gdR i t (rd_T48 R1 (t : Int)) from ⟨HR.out.1, HR.out.2.1⟩)
          have HA0 := Aside0.mk (show App base w0 wr 48 4 (Value.slice A3 p.f3.length c3).ownBlock p.f3.length (.slice A3 p.f3.length c3) 0 wr from by have h := App.start (Kd.S_R H2.out.s) H2.out.bel H2.out.hb; rw [HR.out.1] at h; exact h)
          clear HR
          go_wp2_with fail
          obtain ⟨wj, rfl⟩ : ∃ wj : World, wj = wr := ⟨_, rfl⟩
          go_loopg [4, 9] 9 (fun kq s4 s9 wr => ∃ (t : Nat), t + kq = 9 ∧ s9 = .int .i64 (t : Int) ∧ Aside0 (App base w0 wj 48 4 (Value.slice A3 p.f3.length c3).ownBlock p.f3.length s4 t wr))
          case atStart => exact ⟨0, by omega, rfl, HA0⟩
          case round =>
            clear HA0
            obtain ⟨t, ht, rfl, HA⟩ := hrel
            obtain ⟨As, cs, rfl⟩ := HA.out.slice
            by_cases hlt9 : t < 9
            · go_wp2_with (((with_reducible refine gate_builtin (b := .append) (xs := #[.tmp 71, .tmp 73]) rfl ?_); at_builtin; go_loud (refine App.step rfl (.tmp 71) (.tmp 73) 43 48 (.agg #[(.int .i64 0), (.bool false), (.bool false), (.slice none 0 0)]) 4 40 rfl Try.underlying43 infoA48 rfl (by decide) (by decide) (.slice As (p.f3.length + t) cs) [.int .i64 (-9000), .bool false, .bool false, .slice none 0 0] rfl (by first | (go_simp; done) | (go_simp; rfl)) rfl (by decide) HA.out (by omega) ?_); intro v1 w6 HA6; have HA7 := Aside0.mk HA6; clear HA6))
              go_roundg (9 - (t + 1))
              case measure => omega
              case rel => exact ⟨t + 1, by omega, by go_num, HA7⟩
            · have H4 := Aside0.mk (H2.out.keepV HLT.out HA.out.choose_spec.2.2.1 (by rw [HRa.out.1]; exact Nat.le_refl _) HA.out.choose_spec.2.2.2.1)
              have hMp := Aside0.mk (k45A_mkM wr base oki (⟨-5 - (i : Int), p.f1, p.f2, R1⟩ : S45) H4.out.s)
              have hcell := blk_cell H4.out.gb
              clear HA H2
              go_wp2_with (((with_reducible refine gate_ (.store 3 (.tmp 81) (.tmp 79)) rfl ?_); go_loud (refine Kd.H_store k45A (w0 := w0) base rfl rfl 3 (.tmp 81) (.tmp 79) rfl 45 (o' := i * 4) (i : Int) 0 P1 (⟨-5 - (i : Int), p.f1, p.f2, R1⟩ : S45) (.int .i64 (-5 - (i : Int))) [.int .i64 (-5 - (i : Int))] [.int .i64 p.f0, .int .i64 p.f1, .bool p.f2, .slice A3 p.f3.length c3] ok1 oki oki rfl rfl rfl rfl info3s (by intro q hq; rw [List.mem_singleton.1 hq]; rfl) H4.out.h (by omega) (by omega) (by show 1 ≤ 4; omega) hMp.out (fun _ h => h) H4.out.bel ?_); intro w7 hs7 hb7 hg7; have H5 := Aside0.mk (H4.out.close HLT.out hg7 hgok.out hs7 hb7); clear hs7 hb7 hg7))
              go_roundg (n - (i + 1))
              case measure => omega
              case rel => exact ⟨i + 1, P1.set i (⟨-5 - (i : Int), p.f1, p.f2, R1⟩ : S45), by omega, by go_num, by rw [HC.out]; exact H5, ⟨by rw [List.length_set]; exact HP.out.1, fun t ht => by
                  rw [rd45_set _ _ _ _ (by rw [HP.out.1]; omega)]
                  by_cases h : t = i
                  · rw [if_pos h, h]
                    exact ⟨rfl, by show R1.length ≤ _; rw [HRa.out.1]; exact hm2, fun j hj => HRa.out.2 j (by rw [← HRa.out.1]; exact hj)⟩
                  · rw [if_neg h]; exact HP.out.2.1 t (by omega), fun t ht => by
                  rw [rd45_set _ _ _ _ (by rw [HP.out.1]; omega), if_neg (by omega)]
                  exact HP.out.2.2 t (by omega)⟩⟩
    · have hie : i = n := by omega
      subst hie
      clear hi hlast
      have hgd := Aside0.mk HP.out.2.1
      have hPl := Aside0.mk HP.out.1
      have hI2 := Aside0.mk (show In1 w0 w base ok1 #[.int .i64 a0, .int .i64 a1, .int .i64 a2, .int .i64 a3, .slice Av i cv] (.slice Av i cv) P1 wr by rw [← HC.out]; exact HI.out)
      have HA0 := Aside0.mk (show App base w0 wr 45 4 (Value.slice Av i cv).ownBlock i (.slice Av i cv) 0 wr from by have h := App.start (Kd.S_R hI2.out.s) hI2.out.bel hI2.out.hb; rw [hPl.out] at h; exact h)
      have hcell := blk_cell hI2.out.gb
      clear HP HI
      go_wp2_with fail
      obtain ⟨wj, rfl⟩ : ∃ wj : World, wj = wr := ⟨_, rfl⟩
      clear hcell
      go_loopg [10, 11] 9 (fun kq s10 s11 wr => ∃ (t : Nat), t + kq = 9 ∧ s11 = .int .i64 (t : Int) ∧ Aside0 (App base w0 wj 45 4 (Value.slice Av i cv).ownBlock i s10 t wr))
      case atStart => exact ⟨0, by omega, rfl, HA0⟩
      case round =>
        clear HA0
        obtain ⟨t, ht, rfl, HA⟩ := hrel
        obtain ⟨As, cs, rfl⟩ := HA.out.slice
        by_cases hlt9 : t < 9
        · go_wp2_with (((with_reducible refine gate_builtin (b := .append) (xs := #[.tmp 88, .tmp 90]) rfl ?_); at_builtin; go_loud (refine App.step rfl (.tmp 88) (.tmp 90) 25 45 (.agg #[(.int .i64 0), (.int .i64 0), (.bool false), (.slice none 0 0)]) 4 48 rfl Try.underlying25 infoP45 rfl (by decide) (by decide) (.slice As (i + t) cs) [.int .i64 (-9000), .int .i64 0, .bool false, .slice none 0 0] rfl (by first | (go_simp; done) | (go_simp; rfl)) rfl (by decide) HA.out (by omega) ?_); intro v1 w6 HA6; have HA7 := Aside0.mk HA6; clear HA6))
          go_roundg (9 - (t + 1))
          case measure => omega
          case rel => exact ⟨t + 1, by omega, by go_num, HA7⟩
        · have H4 := Aside0.mk (hI2.out.keepV HLT.out HA.out.choose_spec.2.2.1 (by rw [hPl.out]; exact Nat.le_refl _) HA.out.choose_spec.2.2.2.1)
          have hcell := blk_cell H4.out.gb
          clear HA hI2
          go_wp2_with fail
          obtain ⟨wz, rfl⟩ : ∃ wz : World, wz = wr := ⟨_, rfl⟩
          have HCC := Aside0.mk (show Kd.C k45 wz Av i P1 from by have h := (Kd.R_reads' (R_of_A H4.out.s)).2.2; rw [hPl.out] at h; exact h)
          clear hcell
          go_loopg [12] i (fun kq s12 wr => ∃ (i' : Nat), i' + kq = i ∧ s12 = .int .i64 (i' : Int) ∧ Aside0 (Below wz.heap.size wz wr))
          case atStart => exact ⟨0, by omega, rfl, ⟨Below.refl _ _⟩⟩
          case round =>
            obtain ⟨i', hi', rfl, HBz⟩ := hrel
            have hcell := blk_cell ((HBz.out.block _ (blk_lt H4.out.gb)).trans H4.out.gb)
            by_cases hlz : i' < i
            · obtain ⟨ad, A3, c3, rfl, q0, _, _, q3, q4, q5⟩ := at_T45 (Kd.C_below HCC.out HBz.out) (i' : Int) (by omega) (by omega)
              rw [(hgd.out i' hlz).1] at q0
              have hgr := Aside0.mk (hgd.out i' hlz).2.2
              have hpl : (rd_T45 P1 (i' : Int)).f3.length ≤ 1099511627776 := (hgd.out i' hlz).2.1
              obtain ⟨p, hp⟩ : ∃ p, p = rd_T45 P1 (i' : Int) := ⟨_, rfl⟩
              rw [← hp] at q3 q4 q5 hgr hpl
              have PO := Aside0.mk hp
              have HC5 := Aside0.mk q5
              simp only [Int.toNat_natCast] at q0 q3
              clear q5 hp
              go_wp2_with fail
              clear hcell q0 q3
              obtain ⟨wy, rfl⟩ : ∃ wy : World, wy = wr := ⟨_, rfl⟩
              go_loopg [13] p.f3.length (fun kq s13 wr => ∃ (k : Nat), k + kq = p.f3.length ∧ s13 = .int .i64 (k : Int) ∧ Aside0 (Below wy.heap.size wy wr))
              case atStart => exact ⟨0, by omega, rfl, ⟨Below.refl _ _⟩⟩
              case round =>
                obtain ⟨k, hk, rfl, HBy⟩ := hrel
                have HBw := Aside0.mk (HBz.out.trans (HBy.out.mono HBz.out.size))
                have hcell := blk_cell ((HBw.out.block _ (blk_lt H4.out.gb)).trans H4.out.gb)
                obtain ⟨ad', A3', c3', hAd, _, _, _, q3, _, q5⟩ := at_T45 (Kd.C_below HCC.out HBw.out) (i' : Int) (by omega) (by omega)
                injection hAd with hAd
                subst hAd
                rw [← PO.out] at q3 q5
                simp only [Int.toNat_natCast] at q3
                by_cases hlk : k < p.f3.length
                · obtain ⟨ad3, A4, c4, rfl, r0, r1, r2, r3, r4, r5⟩ := at_T48 q5 (k : Int) (by omega) (by omega)
                  rw [(hgr.out k hlk).1] at r0
                  have hgx := Aside0.mk (hgr.out k hlk).2
                  obtain ⟨r, hr⟩ : ∃ r, r = rd_T48 p.f3 (k : Int) := ⟨_, rfl⟩
                  rw [← hr] at r1 r2 r3 r4 r5 hgx
                  simp only [Int.toNat_natCast] at r0 r1 r2 r3
                  have HC6 := Aside0.mk r5
                  clear r5 q5 hr
                  have hkb : -5 - (k : Int) ≥ -2000000000000 := by omega
                  go_wp2_with fail
                  obtain ⟨W5, hW5⟩ : ∃ X, X = wr.alloc (.cells #[.int .i64 (-5 - (k : Int)), .bool r.f1, .bool r.f2, .slice A4 r.f3.length c4] 48) := ⟨_, rfl⟩
                  have hB5 := Aside0.mk (show Below wr.heap.size wr W5 by rw [hW5]; exact below_alloc (Below.refl _ _) _)
                  have hK5 := Aside0.mk (show W5.heap[wr.heap.size]? = some (.cells #[.int .i64 (-5 - (k : Int)), .bool r.f1, .bool r.f2, .slice A4 r.f3.length c4] 48 (0, 0)) by rw [hW5]; exact heap_alloc_new wr _)
                  rw [← hW5]
                  clear hW5 hcell q3 r0 r1 r2 r3 hkb
                  go_loopg [15] r.f3.length (fun kq s15 wq => ∃ (j : Nat), j + kq = r.f3.length ∧ s15 = .int .i64 (j : Int) ∧ Aside0 (wq = W5))
                  case atStart => exact ⟨0, by omega, rfl, ⟨rfl⟩⟩
                  case round =>
                    obtain ⟨j, hj, rfl, HW⟩ := hrel
                    obtain rfl := HW.out
                    clear HW
                    have hnew := blk_cell hK5.out
                    by_cases hlj : j < r.f3.length
                    · obtain ⟨ad4, rfl, x0, x1, x2, x3, x4, x5, x6, x7, x8, x9⟩ := at_T50 (Kd.C_below HC6.out hB5.out) (j : Int) (by omega) (by omega)
                      have hjb : r.f3.length ≤ 9223372036854775807 := HC6.out.2.1
                      rw [hgx.out j hlj] at x0 x1 x2 x3 x4 x5 x6 x7 x8 x9
                      simp only [Int.toNat_natCast, mkX] at x0 x1 x2 x3 x4 x5 x6 x7 x8 x9
                      go_wp2_with fail
                      go_roundg (r.f3.length - (j + 1))
                      case measure => omega
                      case rel => exact ⟨j + 1, by omega, by go_num, ⟨rfl⟩⟩
                    · go_wp2_with fail
                      go_roundg (p.f3.length - (k + 1))
                      case measure => omega
                      case rel => exact ⟨k + 1, by omega, by go_num, ⟨HBy.out.trans (hB5.out.mono HBy.out.size)⟩⟩
                · go_wp2_with fail
                  go_roundg (i - (i' + 1))
                  case measure => omega
                  case rel => exact ⟨i' + 1, by omega, by go_num, ⟨HBw.out⟩⟩
            · go_wp2_with fail
              go_ret
              exact ⟨rfl, Kept.then_ (Kept.mono H4.out.kept HLE.out) (Kept.of_below HBz.out ok) (fun k h => .inl h), H4.out.bel.trans (HBz.out.mono H4.out.hb)⟩
structure An where
  a0 : Int
  a1 : Int
  a2 : Int
  a3 : Int
  v : Value
  l : List S45
  N : Nat
  M : Nat
def An.cells (x : An) : List Value := [.int .i64 x.a0, .int .i64 x.a1, .int .i64 x.a2, .int .i64 x.a3, x.v]
def Lies (wr : World) (x : An) : Prop := Kd.S k45A 45 wr x.N (fun k => x.N ≤ k ∧ k < x.M) x.v x.l
def Outs (w wr : World) (vo : Value) (T : List An) (j : Nat) : Prop :=
  Below w.heap.size w wr ∧ (Kd.raw 5).R 27 wr w.heap.size (fun _ => True) vo (T.map An.cells) ∧
  ∀ (t : Nat) (x : An), T[t]? = some x → (j ≤ t → Lies wr x) ∧ w.heap.size ≤ x.N ∧ x.M ≤ wr.heap.size ∧ ∀ (t' : Nat) (x' : An), t < t' → T[t']? = some x' → x.M ≤ x'.N
theorem E45 : ∀ q, q ∈ 45 :: k45A.E → q ≠ 27 ∧ q ≠ 5 := by decide
theorem S_other {α β : Type} {d : Kd α} {d' : Kd β} {e e' base base' : Nat} {W w1 : World} {ok ok' : Nat → Prop} {u v : Value} {xs : List α} {ys : List β} (h : Kd.S d e W base ok u xs) (hr : d'.R e' W base' ok' v ys) (hne : ∀ q, q ∈ e :: d.E → q ≠ e') (hg : W.grownBy w1 v.ownBlock) : Kd.S d e w1 base ok u xs := by
  obtain ⟨A, c, rfl⟩ := Kd.R_slice hr
  cases A with
  | none => exact Kd.S_grown h hg (fun k _ => by simp [Value.ownBlock])
  | some ad =>
    obtain ⟨g, rfl⟩ := Kd.R_head hr
    obtain ⟨_, inner, ho, _⟩ := hr
    obtain ⟨cells, hc⟩ := own_typed ho g (by simp [Value.ownBlock])
    refine Kd.S_mono (Kd.S_grown (Kd.S_types h hc hne) hg (fun k hk he => hk.2 ?_)) (fun k hk => hk.1)
    simpa [Value.ownBlock] using he
theorem Outs.below {w wr w1 : World} {vo : Value} {T : List An} {j : Nat} (h : Outs w wr vo T j) (hb : Below wr.heap.size wr w1) : Outs w w1 vo T j :=
  ⟨below_step h.1 hb, Kd.R_below h.2.1 hb, fun t x hx => by
    obtain ⟨h1, h2, h3, h4⟩ := h.2.2 t x hx
    exact ⟨fun hj => Kd.S_below (h1 hj) hb, h2, Nat.le_trans h3 hb.size, h4⟩⟩
theorem Outs.less {w wr : World} {vo : Value} {T : List An} {j j' : Nat} (h : Outs w wr vo T j) (hj : j ≤ j') : Outs w wr vo T j' :=
  ⟨h.1, h.2.1, fun t x hx => by
    obtain ⟨h1, h2⟩ := h.2.2 t x hx
    exact ⟨fun hk => h1 (Nat.le_trans hj hk), h2⟩⟩
theorem Outs.snoc {w W w1 : World} {vo v1 : Value} {T : List An} (h : Outs w W vo T 0) (x : An) (hx : Lies W x) (hN : ∀ (t : Nat) (y : An), T[t]? = some y → y.M ≤ x.N) (hw : w.heap.size ≤ x.N) (hM : x.M ≤ W.heap.size)
    (hr : (Kd.raw 5).R 27 w1 w.heap.size (fun _ => True) v1 (T.map An.cells ++ [x.cells])) (hg : W.grownBy w1 vo.ownBlock) (hb : Below w.heap.size w w1) : Outs w w1 v1 (T ++ [x]) 0 := by
  refine ⟨hb, by rw [List.map_append]; exact hr, fun t y hy => ?_⟩
  have hk : ∀ z : An, Lies W z → Lies w1 z := fun z hz => S_other hz h.2.1 (fun q hq => (E45 q hq).1) hg
  rcases Nat.lt_or_ge t T.length with ht | ht
  · rw [List.getElem?_append_left ht] at hy
    obtain ⟨h1, h2, h3, h4⟩ := h.2.2 t y hy
    refine ⟨fun _ => hk y (h1 (Nat.zero_le _)), h2, Nat.le_trans h3 hg.size, fun t' y' htt hy' => ?_⟩
    rcases Nat.lt_or_ge t' T.length with ht' | ht'
    · rw [List.getElem?_append_left ht'] at hy'
      exact h4 t' y' htt hy'
    · rw [List.getElem?_append_right ht'] at hy'
      have : y' = x := by
        cases hq : t' - T.length with
        | zero => rw [hq] at hy'; exact (Option.some.inj hy').symm
        | succ m => rw [hq] at hy'; cases hy'
      rw [this]
      exact hN t y hy
  · rw [List.getElem?_append_right ht] at hy
    have hyx : y = x ∧ t = T.length := by
      cases hq : t - T.length with
      | zero => rw [hq] at hy; exact ⟨(Option.some.inj hy).symm, by omega⟩
      | succ m => rw [hq] at hy; cases hy
    obtain ⟨rfl, rfl⟩ := hyx
    refine ⟨fun _ => hk y hx, hw, Nat.le_trans hM hg.size, fun t' y' htt hy' => ?_⟩
    rw [List.getElem?_append_right (by omega)] at hy'
    have : t' - T.length ≠ 0 := by omega
    cases hq : t' - T.length with
    | zero => omega
    | succ m => rw [hq] at hy'; cases hy'
theorem Outs.spoil {w wr w1 : World} {vo : Value} {T : List An} {j : Nat} {x : An} (h : Outs w wr vo T j) (hx : T[j]? = some x)
    (hk : Kept wr w1 (fun k => (x.N ≤ k ∧ k < x.M) ∧ x.N ≤ k ∧ k < wr.heap.size ∧ ∃ q, q ∈ 45 :: k45A.E ∧ ∃ cells, wr.heap[k]? = some (.cells cells q (0, 0)))) (hb : Below w.heap.size w w1) : Outs w w1 vo T (j + 1) := by
  refine ⟨hb, ?_, fun t y hy => ?_⟩
  · obtain ⟨_, inner, ho, _⟩ := id h.2.1
    have h2 := Kd.R_tight rfl h.2.1
    refine Kd.R_mono (Kd.R_step h2 (fun k hk2 hlt => hk.2 k hlt ?_)) (fun _ _ => trivial)
    rintro ⟨_, _, _, q, hq, cells, hc⟩
    obtain ⟨cells', hc'⟩ := own_typed ho k hk2.symm
    rw [hc] at hc'
    injection hc' with hc'
    injection hc' with _ hq2
    exact (E45 q hq).1 hq2
  · obtain ⟨h1, h2, h3, h4⟩ := h.2.2 t y hy
    refine ⟨fun hj => ?_, h2, Nat.le_trans h3 hk.1, h4⟩
    refine Kd.S_step (h1 (by omega)) (fun k hk2 hlt => hk.2 k hlt (fun hbad => ?_))
    have := (h.2.2 j x hx).2.2.2 t y (by omega) hy
    omega
end Go.Proofs.Ytihiapjfdgoomaa.A
