/- The walk of platenlaw20.AnswerTurned. -/
import Derived.Test.YtihiapjfdgoomaaC1
import Derived.Test.YtihiapjfdgoomaaE2
import Derived.Test.YtihiapjfdgoomaaE3
namespace Go.Proofs.Ytihiapjfdgoomaa.A
open Go.RowKit Go.Proofs.YtihiapjfdgoomaaW.PrintWords Go.Proofs.YtihiapjfdgoomaaW.PrintLast Go.Proofs.YtihiapjfdgoomaaW.PrintMore
open Go.Proofs.Ytihiapjfdgoomaa.P
set_option linter.unusedVariables false
set_option linter.unusedSimpArgs false

/-- Bytes that are no answer. -/
theorem get_200 {b : List Int} (h : getF b = (0, 0, 0, 0, [], 200)) (A : Option Addr) (c : Nat) (w : World) (hC : Kd.C (Kd.int .u8) w A b.length b) (hc : b.length ≤ c) (hl : b.length ≤ 1099511627776) :
    Calls Try.prog 15 #[.slice A b.length c] w fun e w' => ∃ A' c', e = .returned (.tuple #[.agg #[.int .i64 0, .int .i64 0, .int .i64 0, .int .i64 0, .slice A' 0 c'], .int .i64 200]) ∧ Below w.heap.size w w' :=
  (get_all A c b w hC hc hl).mono fun e w' ⟨v, he, hs, hb⟩ => by
    rw [h] at he hs
    obtain ⟨A', c', hv⟩ := Kd.S_slice hs
    subst hv
    exact ⟨A', c', he, hb⟩

/-- A byte with one bit turned is another byte. -/
theorem xor_ne (x : Int) (k : Nat) (hx : 0 ≤ x ∧ x < 256) (hk : 0 < k ∧ k < 256) : (0 ≤ Go.bits .xor .u8 x k ∧ Go.bits .xor .u8 x k < 256) ∧ x ≠ Go.bits .xor .u8 x k := by
  obtain ⟨a, rfl⟩ := Int.eq_ofNat_of_zero_le hx.1
  have ha : a < 2 ^ 8 := by have := hx.2; omega
  have hk8 : k < 2 ^ 8 := by have := hk.2; omega
  rw [bits_xor .u8 8 (Nat.le_refl _) wraps_u8 a k ha hk8]
  have hlt : a ^^^ k < 256 := Nat.xor_lt_two_pow ha hk8
  refine ⟨⟨Int.natCast_nonneg _, by omega⟩, fun h => ?_⟩
  have h1 : a = a ^^^ k := by omega
  have h2 : a ^^^ a = a ^^^ (a ^^^ k) := by rw [← h1]
  rw [Nat.xor_self, ← Nat.xor_assoc, Nat.xor_self, Nat.zero_xor] at h2
  omega
/-- The last reading: of the bytes with one of them turned. -/
theorem last_200 {m : Int} {bs : List Int} {n g3 cp3 base : Nat} {W w : World} {ok : Nat → Prop} (hn : n < bs.length) (hl : bs.length ≤ 1099511627776) (R8 : Kd.R (Kd.int .u8) 5 W base ok (.slice (some ⟨g3, 0, none⟩) bs.length cp3) bs)
    (G3 : ∀ n, n < bs.length → ∀ v, 0 ≤ v ∧ v < 256 → rd bs (n : Int) ≠ v → getF (bs.set n v) = (0, 0, 0, 0, [], 200)) (hby : byt bs) (HB : Below w.heap.size w W) (hg3 : w.heap.size ≤ g3) (hm : 0 < m ∧ m < 256) :
    Calls Try.prog 15 #[.slice (some ⟨g3, 0, none⟩) bs.length cp3] (W.setCell ⟨g3, n, none⟩ (.int .u8 (Go.bits .xor .u8 (rdOf 0 bs (n : Int)) m))).drew fun e w' => ∃ A' c', e = .returned (.tuple #[.agg #[.int .i64 0, .int .i64 0, .int .i64 0, .int .i64 0, .slice A' 0 c'], .int .i64 200]) ∧ Below w.heap.size w w' := by
  obtain ⟨k, rfl⟩ := Int.eq_ofNat_of_zero_le (show 0 ≤ m by omega)
  have hx : 0 ≤ rdOf 0 bs (n : Int) ∧ rdOf 0 bs (n : Int) < 256 := by
    have e : rdOf 0 bs (n : Int) = bs[n] := by simp [rdOf, List.getD_eq_getElem?_getD, List.getElem?_eq_getElem hn]
    rw [e]
    exact hby _ (List.getElem_mem hn)
  obtain ⟨t1, t2⟩ := xor_ne (rdOf 0 bs (n : Int)) k hx (by omega)
  have hg := G3 n hn _ t1 t2
  generalize Go.bits .xor .u8 (rdOf 0 bs (n : Int)) (k : Int) = v at hg ⊢
  have R9 := Kd.R_drew (Kd.R_putg R8 (n : Int) v).1
  rw [Int.toNat_natCast] at R9
  have hln : (bs.set n v).length = bs.length := by simp
  have hr := Kd.R_reads' R9
  have hC := hr.2.2
  have h := get_200 hg (some ⟨g3, 0, none⟩) cp3 _ hC (by rw [hln]; exact hr.2.1) (by rw [hln]; exact hl)
  rw [hln] at h
  exact h.mono fun e w' ⟨A', c', he, hb⟩ => ⟨A', c', he, below_step (below_drew (below_set HB hg3)) hb⟩

set_option maxHeartbeats 4000000 in
set_option maxRecDepth 100000 in
theorem turned_walk (a0 a1 a2 a3 : Int) (A : Option Addr) (c : Nat) (l : List S45) (pt bit bh : Int) (hbh : 0 ≤ bh ∧ bh < 256) (w : World) (hC : Kd.C k45 w A l.length l) (hc : l.length ≤ c) (ok : okA a0 a1 a2 a3 l) :
    Calls Try.prog 6 #[.agg #[.int .i64 a0, .int .i64 a1, .int .i64 a2, .int .i64 a3, .slice A l.length c], .int .i64 pt, .int .i64 bit, .int .u8 bh] w fun e w' => e = .returned (.bool true) ∧ Below w.heap.size w w' := by
  obtain ⟨K1, t, hK1, ht⟩ := beyond_tells a0 a1 a2 a3 l ok (by have := ok.2.2.2.2.1; omega) (fun i => by have := (ok45 ok.2.2.2.2.2 (i : Int)).2.2.1; omega)
    (fun i j => by have := (ok48 (ok45 ok.2.2.2.2.2 (i : Int)).2.2.2 (j : Int)).2.1; omega)
  have HB := Aside0.mk (hK1 K1 (Nat.le_refl _))
  have HT := Aside0.mk ht
  have HC := Aside0.mk hC
  have OK := Aside0.mk ok
  have HBH := Aside0.mk hbh
  clear hK1 ht hC ok hbh
  go_enter Try.func6, Try.ntmps6
  go_wp2_with fail
  refine (platenlaw20_beyond.calls K1 a0 a1 a2 a3 A c l t _ (Kd.C_alloc HC.out _) hc HB.out).mono ?_
  rintro e W1 ⟨rfl, h1⟩
  have hb1 : W1.heap[w.heap.size]? = some (.cells #[.int .i64 a0, .int .i64 a1, .int .i64 a2, .int .i64 a3, .slice A l.length c] 27 (0, 0)) := (h1.block _ (by simp)).trans (heap_alloc_new w _)
  have H1 := Aside0.mk (below_step (below_alloc (Below.refl _ _) _) h1)
  have HC1 := Aside0.mk (Kd.C_below (Kd.C_alloc HC.out _) h1)
  have HK1 := Aside0.mk hb1
  have hc1 := blk_cell hb1
  clear h1 hb1 HC HB
  cases t with
  | true =>
    clear hc1
    go_wp2
    exact bodyPost_ret (v := .bool true) (by simp [results, Try.results6, go_sem]) rfl ⟨rfl, H1.out⟩
  | false =>
    have HL := Aside0.mk (HT.out rfl)
    clear HT hc1
    go_wp2_with fail
    refine (shown_calls _).mono ?_
    rintro e W2 ⟨rfl, h2⟩
    have hb2 := (h2.block _ (blk_lt HK1.out)).trans HK1.out
    have H2 := Aside0.mk (below_step H1.out h2)
    have HC2 := Aside0.mk (Kd.C_below HC1.out h2)
    have hc2 := blk_cell hb2
    clear h2 H1 HC1 HK1 hb2
    go_wp2_with fail
    by_cases hw : a2 < 0 ∨ a3 < 0 ∨ a0 ≠ 0 ∧ 0 < l.length
    · refine (put_no a0 a1 a2 a3 A c l _ HC2.out hc hw).mono ?_
      rintro e W3 ⟨rfl, h3⟩
      have H3 := Aside0.mk (below_step H2.out h3)
      clear h3 hw hc2
      go_wp2
      exact bodyPost_ret (v := .bool true) (by simp [results, Try.results6, go_sem]) rfl ⟨rfl, H3.out⟩
    · refine (put_ok a0 a1 a2 a3 A c l _ HC2.out hc (by omega) (by omega) (by omega) (by have := HL.out; omega)).mono ?_
      rintro e W3 ⟨v3, rfl, r3, h3⟩
      have hlb : (putB a0 a1 a2 a3 l).length ≤ 2147483647 := by rw [putB_length]; exact HL.out
      have hlp : 0 < (putB a0 a1 a2 a3 l).length := by rw [putB_length]; omega
      obtain ⟨g3, cp3, hv3, hg3, hlt3, _⟩ := Kd.R_form r3 hlp
      subst hv3
      obtain ⟨bs, hbs⟩ : ∃ x, putB a0 a1 a2 a3 l = x := ⟨_, rfl⟩
      have G1 := Aside0.mk (fun n (h : n < bs.length) => by rw [← hbs] at h ⊢; exact get_begin OK.out n h : ∀ n, n < bs.length → getF (bs.take n) = (0, 0, 0, 0, [], 200))
      have G2 := Aside0.mk (by rw [← hbs]; exact get_more OK.out bh HBH.out : getF (bs ++ [bh]) = (0, 0, 0, 0, [], 200))
      have G3 := Aside0.mk (fun n (h : n < bs.length) v (hv : 0 ≤ v ∧ v < 256) (hne : rd bs (n : Int) ≠ v) => by rw [← hbs] at h hne ⊢; exact get_turned OK.out n h v hv hne : ∀ n, n < bs.length → ∀ v, 0 ≤ v ∧ v < 256 → rd bs (n : Int) ≠ v → getF (bs.set n v) = (0, 0, 0, 0, [], 200))
      have HBY := Aside0.mk (by rw [← hbs]; exact byt_putB _ _ _ _ _ : byt bs)
      rw [hbs] at r3 hlb hlp
      rw [hbs]
      have H3 := Aside0.mk (below_step H2.out h3)
      have R3 := Aside0.mk r3
      have HG3 := Aside0.mk (Nat.le_trans H2.out.size hg3)
      have hcp : bs.length ≤ cp3 := (Kd.R_reads' r3).2.1
      clear h3 r3 hg3 hw HL hbs OK HC2 H2 hc2 HBH
      by_cases q1 : pt < 0
      · have z1 : decide (pt < 0) = true := by simpa using q1
        go_wp2
        exact bodyPost_ret (v := .bool true) (by simp [results, Try.results6, go_sem]) rfl ⟨rfl, H3.out⟩
      have z1 : decide (pt < 0) = false := by simpa using q1
      by_cases q2 : (bs.length : Int) ≤ pt
      · have z2 : decide ((bs.length : Int) ≤ pt) = true := by simpa using q2
        go_wp2
        exact bodyPost_ret (v := .bool true) (by simp [results, Try.results6, go_sem]) rfl ⟨rfl, H3.out⟩
      have z2 : decide ((bs.length : Int) ≤ pt) = false := by simpa using q2
      by_cases q3 : bit < 0
      · have z3 : decide (bit < 0) = true := by simpa using q3
        go_wp2
        exact bodyPost_ret (v := .bool true) (by simp [results, Try.results6, go_sem]) rfl ⟨rfl, H3.out⟩
      have z3 : decide (bit < 0) = false := by simpa using q3
      by_cases q4 : 7 < bit
      · have z4 : decide (7 < bit) = true := by simpa using q4
        go_wp2
        exact bodyPost_ret (v := .bool true) (by simp [results, Try.results6, go_sem]) rfl ⟨rfl, H3.out⟩
      have z4 : decide (7 < bit) = false := by simpa using q4
      obtain ⟨n, rfl⟩ := Int.eq_ofNat_of_zero_le (show 0 ≤ pt by omega)
      have hn : n < bs.length := by omega
      have hnc : n ≤ cp3 := by omega
      go_wp2_with fail
      have hln : (bs.take n).length = n := by simp; omega
      have hcall := get_200 (G1.out n hn) (some ⟨g3, 0, none⟩) cp3 W3 (Kd.C_take (Kd.R_reads' R3.out).2.2 (by omega)) (by omega) (by omega)
      rw [hln] at hcall
      refine hcall.mono ?_
      rintro e W4 ⟨A4, c4, rfl, h4⟩
      have H4 := Aside0.mk (below_step H3.out h4)
      have R4 := Aside0.mk (Kd.R_below R3.out h4)
      clear h4 hcall H3 R3 G1 hln z1 z2 z3 z4
      go_wp2_with (first
        | ((with_reducible refine gate_dst (N := 54) rfl ?_); refine Kd.R_lit (Kd.int .u8) (w0 := W4) W4.heap.size 5 ?hg (N := 54) ?hd (xs := ([] : List Int)) (inner := []) (ok := fun _ => True) (okp := fun _ => False) ?hr ?hp (fun _ hk => hk.elim) trivial ?hB ?hb (by simp) ?_; (case hd => rfl); (case hg => rfl); (case hr => first | (go_simp; done) | (go_simp; rfl)); (case hp => exact (Reps.none _ _)); (case hB => exact below_alloc (Below.refl _ _) _); (case hb => exact (below_alloc (Below.refl W4.heap.size W4) _).size); intro v5 w5 r5 b5 g5 n5; clear g5 n5; have R5 := Aside0.mk r5; have H5 := Aside0.mk b5; clear r5 b5)
        | ((with_reducible refine gate_builtin (b := .append) (xs := #[.tmp 55, .tmp 56]) rfl ?_); at_builtin; refine Kd.R_append_rows (Kd.int .u8) (w0 := W4) W4.heap.size rfl (.tmp 55) (.tmp 56) 32 5 (.int .u8 0) 1 rfl Try.underlying32 info5 rfl (by decide) (by decide) v5 [] bs (some ⟨g3, 0, none⟩) bs.length cp3 (fun _ => True) (fun _ => False) rfl rfl ?aO ?aR (fun _ _ h => h) (fun _ h => h.elim) (fun _ _ => trivial) ?aB ?aS ?aL ?_; (case aO => exact R5.out); (case aR => exact Kd.C_below (Kd.R_reads' R4.out).2.2 H5.out); (case aB => exact H5.out); (case aS => exact H5.out.size); (case aL => simp only [List.length_nil]; omega); intro v6 w6 r6 b6 g6 n6; clear g6 n6; rw [List.nil_append] at r6; have R6 := Aside0.mk r6; have H6 := Aside0.mk b6; clear r6 b6 R5 H5)
        | ((with_reducible refine gate_builtin (b := .append) (xs := #[.tmp 58, .tmp 60]) rfl ?_); at_builtin; refine Kd.R_append (Kd.int .u8) (w0 := W4) W4.heap.size rfl (.tmp 58) (.tmp 60) 32 5 (.int .u8 0) 1 rfl Try.underlying32 info5 rfl (by decide) (by decide) v6 bs bh [.int .u8 bh] (fun _ => True) (fun _ => False) rfl rfl rfl (fun _ h => h.elim) (fun _ _ => trivial) ?aO ?aB ?aS ?aL ?_; (case aO => exact Kd.R_mono R6.out (fun _ _ => trivial)); (case aB => exact H6.out); (case aS => exact H6.out.size); (case aL => omega); intro v7 w7 r7 b7 g7 n7; clear g7 n7; have R7 := Aside0.mk r7; have H7 := Aside0.mk b7; clear r7 b7 R6 H6; obtain ⟨A7, c7, hv7⟩ := Kd.R_slice R7.out; subst hv7; rw [List.length_append, List.length_singleton]))
      have hln : (bs ++ [bh]).length = bs.length + 1 := by simp
      have hcall := get_200 G2.out A7 c7 w7 (Kd.R_reads' R7.out).2.2 (Kd.R_reads' R7.out).2.1 (by rw [hln]; omega)
      rw [hln] at hcall
      refine hcall.mono ?_
      rintro e W8 ⟨A8, c8, rfl, h8⟩
      have H8 := Aside0.mk (below_step H7.out h8)
      have R8 := Aside0.mk (Kd.R_below R4.out H8.out)
      have hce := Kd.R_celln 0 (Kd.R_alloc R8.out (.cells #[.int .i64 0, .int .i64 0, .int .i64 0, .int .i64 0, .slice A8 0 c8] 27)) (n : Int) (by omega) (by omega)
      rw [Int.toNat_natCast] at hce
      obtain ⟨hce1, hce2⟩ := hce
      clear h8 hcall H7 R7 G2 hln
      go_upto_region 13 with (fail)
      have hbit : bit = 0 ∨ bit = 1 ∨ bit = 2 ∨ bit = 3 ∨ bit = 4 ∨ bit = 5 ∨ bit = 6 ∨ bit = 7 := by omega
      rcases hbit with rfl | rfl | rfl | rfl | rfl | rfl | rfl | rfl
      all_goals
        go_region
        all_goals
          go_wp2_with fail
          refine (last_200 hn (by omega) (Kd.R_alloc R8.out (.cells #[.int .i64 0, .int .i64 0, .int .i64 0, .int .i64 0, .slice A8 0 c8] 27)) G3.out HBY.out (below_alloc (below_step H4.out H8.out) _) HG3.out (by decide)).mono ?_
          rintro e W9 ⟨A9, c9, rfl, h9⟩
          have H9 := Aside0.mk (below_alloc h9 (.cells #[.int .i64 0, .int .i64 0, .int .i64 0, .int .i64 0, .slice A9 0 c9] 27))
          clear h9 hce1 hce2
          go_wp2
          exact bodyPost_ret (v := .bool true) (by simp [results, Try.results6, go_sem]) rfl ⟨rfl, H9.out⟩
end Go.Proofs.Ytihiapjfdgoomaa.A
