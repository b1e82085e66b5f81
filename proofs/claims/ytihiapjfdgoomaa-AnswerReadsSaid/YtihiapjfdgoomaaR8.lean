/- The law AnswerReads holds of every input (the row of platenlaw20.AnswerReads). -/
import Derived.Test.YtihiapjfdgoomaaR7
import Derived.Test.YtihiapjfdgoomaaRows
import Derived.Test.YtihiapjfdgoomaaR1
import Derived.WalkKit
import Derived.ProofKit
import Derived.OpenShut
import Derived.ShutString
import Derived.ChangeOld
import Derived.Below
namespace Go.Proofs.Ytihiapjfdgoomaa.A
open Go.RowKit Go.Proofs.YtihiapjfdgoomaaW.PrintWords Go.Proofs.YtihiapjfdgoomaaW.PrintLast Go.Proofs.YtihiapjfdgoomaaW.PrintMore
open Go.Proofs.Ytihiapjfdgoomaa.P
set_option linter.unusedVariables false
set_option linter.unusedSimpArgs false
theorem info27 : (Try.prog.info? 27).map (fun i => (i.zero, i.size, i.bytes)) = some (some (.agg #[.int .i64 0, .int .i64 0, .int .i64 0, .int .i64 0, .slice none 0 0]), 5, 56) := by kernel_rfl
theorem R_empty {α : Type} (d : Kd α) (e : Nat) (w : World) (base : Nat) (ok : Nat → Prop) (hb : base ≤ w.heap.size) (hok : ∀ k, ok k) : d.R e (w.alloc (.cells #[] e)) base ok (.slice (some ⟨w.heap.size, 0, none⟩) 0 0) [] :=
  ⟨fun k _ => hok k, [], ⟨by simp, .inr ⟨w.heap.size, 0, #[], rfl, hb, heap_alloc_new w _, Nat.le_refl _, Nat.zero_le _, by simp, by simp⟩⟩, Reps.none _ _⟩
theorem Outs.cells {w wr : World} {go n co j jj : Nat} {T : List An} {x : An} (h : Outs w wr (.slice (some ⟨go, 0, none⟩) n co) T jj) (hx : T[j]? = some x) (hn : n = T.length) :
    wr.cell? ⟨go, j * 5, none⟩ = some (.int .i64 x.a0) ∧ wr.cell? ⟨go, j * 5 + 1, none⟩ = some (.int .i64 x.a1) ∧ wr.cell? ⟨go, j * 5 + 2, none⟩ = some (.int .i64 x.a2) ∧ wr.cell? ⟨go, j * 5 + 3, none⟩ = some (.int .i64 x.a3) ∧ wr.cell? ⟨go, j * 5 + 4, none⟩ = some x.v := by
  have hj : j < T.length := (List.getElem?_eq_some_iff.1 hx).1
  obtain ⟨c, hcl, hM, hcc, _⟩ := Kd.R_elem h.2.1 ([] : List Value) (j : Int) (by omega) (by omega)
  have hc : c = x.cells := by
    rw [hM.1]
    simp [List.getD_eq_getElem?_getD, hx]
  subst hc
  exact ⟨hcc 0 _ rfl, hcc 1 _ rfl, hcc 2 _ rfl, hcc 3 _ rfl, hcc 4 _ rfl⟩
theorem rget_all2 (A : Option Addr) (c : Nat) (b : List Int) (w : World) (hT : Byt w A c b) (hby : byt b) (hl : b.length ≤ 1099511627776) : Calls Try.prog 16 #[.slice A b.length c] w (GetPost w b) := by
  have h := rget_all A c b w hT hby hl
  unfold RGetPost at h
  rw [rget_get hl hby] at h
  exact h
def anOf (b : List Int) (v : Value) (N M : Nat) : An := ⟨(getF b).1, (getF b).2.1, (getF b).2.2.1, (getF b).2.2.2.1, v, (getF b).2.2.2.2.1, N, M⟩
def pick {α : Type} (k : Nat) (x y : α) : α := if k = 1 then y else x
set_option maxHeartbeats 4000000 in
set_option maxRecDepth 100000 in
theorem reads_walk (A0 A1 : Option Addr) (c0 c1 : Nat) (b0 b1 : List Int) (w : World) (hT0 : Byt w A0 c0 b0) (hT1 : Byt w A1 c1 b1) (hb0 : byt b0) (hb1 : byt b1) :
    Calls Try.prog 4 #[.slice A0 b0.length c0, .slice A1 b1.length c1] w fun e w' => e = .returned (.bool true) ∧ Below w.heap.size w w' := by
  by_cases hl0 : (2147483647 : Int) < (b0.length : Int)
  · have z0 : decide ((2147483647 : Int) < (b0.length : Int)) = true := by simpa using hl0
    have z1 : decide (2147483647 < b0.length) = true := by simp; omega
    clear hT0 hT1
    go_enter Try.func4, Try.ntmps4
    go_wp2
    go_ret
    exact ⟨rfl, Below.refl _ _⟩
  have z0 : decide ((2147483647 : Int) < (b0.length : Int)) = false := by simpa using hl0
  have z0' : decide (2147483647 < b0.length) = false := by simp; omega
  by_cases hl1 : (2147483647 : Int) < (b1.length : Int)
  · have z1 : decide ((2147483647 : Int) < (b1.length : Int)) = true := by simpa using hl1
    have z1' : decide (2147483647 < b1.length) = true := by simp; omega
    clear hT0 hT1
    go_enter Try.func4, Try.ntmps4
    go_wp2
    go_ret
    exact ⟨rfl, Below.refl _ _⟩
  have z1 : decide ((2147483647 : Int) < (b1.length : Int)) = false := by simpa using hl1
  have z1' : decide (2147483647 < b1.length) = false := by simp; omega
  have HT0 := Aside0.mk hT0
  have HT1 := Aside0.mk hT1
  have BY0 := Aside0.mk hb0
  have BY1 := Aside0.mk hb1
  clear hT0 hT1 hb0 hb1
  go_enter Try.func4, Try.ntmps4
  go_wp2_with fail
  refine (shown_calls _).mono ?_
  rintro e W1 ⟨rfl, h1⟩
  have H1 := Aside0.mk h1
  clear h1 z0 z0' z1 z1'
  go_wp2_with fail
  have HO0 := Aside0.mk (show Outs w (W1.alloc (.cells #[] 27)) (.slice (some ⟨W1.heap.size, 0, none⟩) 0 0) [] 0 from ⟨below_alloc H1.out _, R_empty _ _ _ _ _ H1.out.size (fun _ => trivial), fun t x hx => by cases hx⟩)
  go_loopg [5, 6] 3 (fun kq s5 s6 wr => ∃ (k : Nat) (T : List An), k + kq = 3 ∧ s6 = .int .i64 (k : Int) ∧ T.length = k ∧ Aside0 (Outs w wr s5 T 0) ∧ Aside0 (∀ (t : Nat) (x : An), T[t]? = some x → x = anOf (pick t b0 b1) x.v x.N x.M))
  case atStart => exact ⟨0, [], by omega, rfl, rfl, HO0, ⟨fun t x hx => by cases hx⟩⟩
  case round =>
    clear HO0 H1
    obtain ⟨k, T, hk, rfl, hTl, HO, HA⟩ := hrel
    have HTL := Aside0.mk hTl
    clear hTl
    by_cases hk3 : k < 3
    · go_upto_if 35 with (fail)
      go_cut [7] (fun v7 wc => v7 = .slice (pick k A0 A1) (pick k b0 b1).length (pick k c0 c1) ∧ wr = wc)
      case first =>
        by_cases hk1 : k = 1
        · subst hk1
          go_wp2
          go_meet
          case rel => exact ⟨rfl, rfl⟩
        · have e1 : ((k : Int) == 1) = false := by simpa using (by omega : (k : Int) ≠ 1)
          have e2 : (k == 1) = false := by simpa using hk1
          have E := Aside0.mk (show ∀ {α : Type} (x y : α), pick k x y = x from fun x y => if_neg hk1)
          clear hk1
          go_wp2
          go_meet
          case rel => exact ⟨by rw [E.out, E.out, E.out], rfl⟩
      case rest =>
        obtain ⟨rfl, rfl⟩ := hcut
        obtain ⟨b, hb⟩ : ∃ b, b = pick k b0 b1 := ⟨_, rfl⟩
        obtain ⟨A, hA⟩ : ∃ A, A = pick k A0 A1 := ⟨_, rfl⟩
        obtain ⟨c, hc⟩ : ∃ c, c = pick k c0 c1 := ⟨_, rfl⟩
        have HT := Aside0.mk (show Byt w A c b by rw [hb, hA, hc]; unfold pick; split; exact HT1.out; exact HT0.out)
        have BY := Aside0.mk (show byt b by rw [hb]; unfold pick; split; exact BY1.out; exact BY0.out)
        have hl : b.length ≤ 2147483647 := by rw [hb]; unfold pick; split <;> omega
        rw [← hb, ← hA, ← hc]
        have HPK := Aside0.mk hb
        have hbc : b.length ≤ c := HT.out.2
        obtain ⟨wr0, rfl⟩ : ∃ wr0 : World, wr0 = wr := ⟨_, rfl⟩
        clear hb hA hc
        have HCw := Aside0.mk (Kd.C_below HT.out.1 HO.out.1)
        go_wp2_with (first
          | ((with_reducible refine gate_dst (N := 37) rfl ?_); refine Kd.R_lit (Kd.int .u8) (w0 := wr0) wr0.heap.size 5 ?hg (N := 37) ?hd (xs := ([] : List Int)) (inner := []) (ok := fun _ => True) (okp := fun _ => False) ?hr ?hp (fun _ hk => hk.elim) trivial ?hB ?hb (by simp) ?_; (case hd => rfl); (case hg => rfl); (case hr => first | (go_simp; done) | (go_simp; rfl)); (case hp => exact (Reps.none _ _)); (case hB => exact Below.refl _ _); (case hb => exact Nat.le_refl _); intro v5 w5 r5 b5 g5 n5; clear g5 n5; have R5 := Aside0.mk r5; have H5 := Aside0.mk b5; clear r5 b5)
          | ((with_reducible refine gate_builtin (b := .append) (xs := #[.tmp 38, .tmp 39]) rfl ?_); at_builtin; refine Kd.R_append_rows (Kd.int .u8) (w0 := wr0) wr0.heap.size rfl (.tmp 38) (.tmp 39) 32 5 (.int .u8 0) 1 rfl Try.underlying32 info5 rfl (by decide) (by decide) v5 [] b A b.length c (fun _ => True) (fun _ => False) rfl rfl ?aO ?aR (fun _ _ h => h) (fun _ h => h.elim) (fun _ _ => trivial) ?aB ?aS ?aL ?_; (case aO => exact R5.out); (case aR => exact Kd.C_below HCw.out H5.out); (case aB => exact H5.out); (case aS => exact H5.out.size); (case aL => simp only [List.length_nil]; omega); intro v6 w6 r6 b6 g6 n6; clear g6 n6; rw [List.nil_append] at r6; have R6 := Aside0.mk r6; have H6 := Aside0.mk b6; clear r6 b6 R5 H5)
          | ((with_reducible refine gate_builtin (b := .append) (xs := #[.tmp 41, .tmp 42]) rfl ?_); at_builtin; refine Kd.R_append (Kd.int .u8) (w0 := wr0) wr0.heap.size rfl (.tmp 41) (.tmp 42) 32 5 (.int .u8 0) 1 rfl Try.underlying32 info5 rfl (by decide) (by decide) v6 b 165 [.int .u8 165] (fun _ => True) (fun _ => False) rfl rfl rfl (fun _ h => h.elim) (fun _ _ => trivial) ?aO ?aB ?aS ?aL ?_; (case aO => exact Kd.R_mono R6.out (fun _ _ => trivial)); (case aB => exact H6.out); (case aS => exact H6.out.size); (case aL => omega); intro v7 w7 r7 b7 g7 n7; clear g7 n7; have R7 := Aside0.mk r7; have H7 := Aside0.mk b7; clear r7 b7 R6 H6; obtain ⟨A7, c7, hv7⟩ := Kd.R_slice R7.out; subst hv7; have hc7 : b.length ≤ c7 := (by have := (Kd.R_reads' R7.out).2.1; simp only [List.length_append, List.length_singleton] at this; omega); rw [List.length_append, List.length_singleton]))
        obtain ⟨g7, cq, hq, hg7, _⟩ := Kd.R_form R7.out (by simp)
        injection hq with e1 e2 e3
        subst e1
        clear e2 e3
        have hb165 : (b ++ [165]).take b.length = b := by simp
        have hC7 : Kd.C (Kd.int .u8) w7 (some ⟨g7, 0, none⟩) b.length b := by
          have h := Kd.C_take (m := b.length) (Kd.R_reads' R7.out).2.2 (by simp)
          rw [hb165] at h
          exact h
        refine (get_all (some ⟨g7, 0, none⟩) c7 b w7 hC7 hc7 (by omega)).mono ?_
        rintro e W8 ⟨v8, rfl, s8, b8⟩
        obtain ⟨A8, c8, rfl⟩ := Kd.S_slice s8
        have R8 := Aside0.mk (Kd.R_below R7.out b8)
        have H8 := Aside0.mk (below_step H7.out b8)
        have S8 := Aside0.mk (show Lies W8 (anOf b (.slice A8 (getF b).2.2.2.2.1.length c8) w7.heap.size W8.heap.size) from Kd.S_mono (Kd.S_bound s8) (fun k hk => ⟨hk.1, hk.2.2.1⟩))
        have hN7 := Aside0.mk H7.out.size
        have hN8 := Aside0.mk b8.size
        obtain ⟨G, hG⟩ : ∃ G, G = getF b := ⟨_, rfl⟩
        rw [← hG]
        have HG := Aside0.mk hG
        clear hC7 s8 b8 R7 H7 hb165 hG
        go_wp2_with fail
        refine (rget_all2 A c b _ ⟨Kd.C_below HCw.out (below_alloc H8.out _), hbc⟩ BY.out (by omega)).mono ?_
        rintro e W9 ⟨v9, rfl, s9, b9⟩
        obtain ⟨A9, c9, rfl⟩ := Kd.S_slice s9
        rw [← HG.out] at s9
        rw [← HG.out]
        have hblk8 : W9.heap[W8.heap.size]? = some (.cells #[.int .i64 G.1, .int .i64 G.2.1, .int .i64 G.2.2.1, .int .i64 G.2.2.2.1, .slice A8 G.2.2.2.2.1.length c8] 27 (0, 0)) := (b9.block _ (by simp)).trans (heap_alloc_new W8 _)
        have hc8 := blk_cell hblk8
        have HB8 := Aside0.mk hblk8
        have HB89 := Aside0.mk (below_step (below_alloc (Below.refl _ _) _) b9 : Below W8.heap.size W8 W9)
        have S9 := Aside0.mk s9
        clear s9 b9 hblk8
        have hlt89 : W8.heap.size < W9.heap.size := blk_lt HB8.out
        go_wp2_with fail
        have hfew := getF_few BY.out (by omega)
        rw [← HG.out] at hfew
        have hl31 : G.2.2.2.2.1.length ≤ 1099511627776 := hfew.1.1
        obtain ⟨Ks, hKs⟩ := same_self G.1 G.2.1 G.2.2.1 G.2.2.2.1 G.2.2.2.2.1 (by omega) hfew.2
        have hB9a := Aside0.mk (below_alloc HB89.out (.cells #[.int .i64 G.1, .int .i64 G.2.1, .int .i64 G.2.2.1, .int .i64 G.2.2.2.1, .slice A9 G.2.2.2.2.1.length c9] 27))
        have hq8 : Kd.R k45 45 W8 w7.heap.size (fun k => w7.heap.size ≤ k ∧ k < W8.heap.size) (.slice A8 G.2.2.2.2.1.length c8) G.2.2.2.2.1 := by have h := R_of_A S8.out; unfold anOf at h; rw [← HG.out] at h; exact h
        have hq9 := Kd.R_alloc (R_of_A S9.out) (.cells #[.int .i64 G.1, .int .i64 G.2.1, .int .i64 G.2.2.1, .int .i64 G.2.2.2.1, .slice A9 G.2.2.2.2.1.length c9] 27)
        refine (platenlaw20_same.calls Ks G.1 G.2.1 G.2.2.1 G.2.2.2.1 A8 c8 G.2.2.2.2.1 G.1 G.2.1 G.2.2.1 G.2.2.2.1 A9 c9 G.2.2.2.2.1 true _ (Kd.C_below (Kd.R_reads' hq8).2.2 hB9a.out) (Kd.R_reads' hq8).2.1 (Kd.R_reads' hq9).2.2 (Kd.R_reads' hq9).2.1 (hKs _ (Nat.le_refl _))).mono ?_
        rintro e W10 ⟨rfl, b10⟩
        have HB10 := Aside0.mk (HB89.out.trans ((below_step (below_alloc (Below.refl _ _) _) b10).mono (Nat.le_of_lt hlt89)) : Below W8.heap.size W8 W10)
        have HB910 := Aside0.mk ((by have h := b10; exact below_step (below_alloc (Below.refl _ _) _) h) : Below W9.heap.size W9 W10)
        clear hq8 hq9 b10 hB9a S9 hc8 hKs
        go_wp2_with fail
        have hK12 := sameBytes_self b (by omega)
        have hC12 := Kd.C_below (Kd.C_take (m := b.length) (Kd.R_reads' R8.out).2.2 (by simp)) HB10.out
        have htk : (b ++ [(165 : Int)]).take b.length = b := by simp
        rw [htk] at hC12
        refine (platenlaw20_sameBytes.calls (b.length + 1) (some ⟨g7, 0, none⟩) c7 b A c b true _ hC12 hc7 (Kd.C_below (Kd.C_below HCw.out H8.out) HB10.out) hbc (hK12 _ (Nat.le_refl _))).mono ?_
        rintro e W11 ⟨rfl, d11⟩
        have HB11 := Aside0.mk (below_step HB10.out d11.below)
        have R11 := Aside0.mk (Kd.R_below R8.out HB11.out)
        have HB8b := Aside0.mk (((below_step HB910.out d11.below).block _ (blk_lt HB8.out)).trans HB8.out)
        have hce := (Kd.R_celln 0 R11.out (b.length : Int) (by omega) (by simp only [List.length_append, List.length_singleton]; omega)).1
        have hv165 : rdOf 0 (b ++ [165]) (b.length : Int) = 165 := by simp [rdOf]
        rw [hv165, Int.toNat_natCast] at hce
        clear hC12 d11 hv165 hK12 htk
        go_wp2_with fail
        have hS11 : Lies W11 (anOf b (.slice A8 (getF b).2.2.2.2.1.length c8) w7.heap.size W8.heap.size) := Kd.S_below S8.out HB11.out
        clear hce R8 S8
        obtain ⟨vo, hvo⟩ : ∃ vo, vo = u5 := ⟨_, rfl⟩
        go_loopg [13] (b.length + 1) (fun kq s13 wx => ∃ (i : Nat) (xs : List Int), i + kq = b.length + 1 ∧ s13 = .int .i64 (i : Int) ∧ Aside0 (Kd.R (Kd.int .u8) 5 wx wr0.heap.size (fun _ => True) (.slice (some ⟨g7, 0, none⟩) (b.length + 1) c7) xs) ∧ Aside0 (Below wr0.heap.size wr0 wx) ∧ Aside0 (Lies wx (anOf b (.slice A8 (getF b).2.2.2.2.1.length c8) w7.heap.size W8.heap.size)) ∧ Aside0 (wx.heap[W8.heap.size]? = some (.cells #[.int .i64 G.1, .int .i64 G.2.1, .int .i64 G.2.2.1, .int .i64 G.2.2.2.1, .slice A8 G.2.2.2.2.1.length c8] 27 (0, 0))))
        case atStart => exact ⟨0, b ++ [165], by omega, rfl, ⟨by have h := R11.out; rw [List.length_append, List.length_singleton] at h; exact h⟩, ⟨below_step H8.out HB11.out⟩, ⟨hS11⟩, HB8b⟩
        case round =>
          clear hS11 R11 HB8b
          obtain ⟨i, xs, hi, rfl, RX, HBX, SX, BX⟩ := hrel
          by_cases hlx : i < b.length + 1
          · obtain ⟨hce1, hce2⟩ := Kd.R_celln 0 RX.out (i : Int) (by omega) (by omega)
            rw [Int.toNat_natCast] at hce1 hce2
            have RX2 := Kd.R_putg RX.out (i : Int) 90
            rw [Int.toNat_natCast] at RX2
            obtain ⟨_, inner, ho, _⟩ := id RX.out
            obtain ⟨cells, hcg⟩ := own_typed ho g7 (by simp [Value.ownBlock])
            have hne : W8.heap.size ≠ g7 := blk_ne BX.out hcg (by decide)
            clear ho hcg
            have RX3 := Aside0.mk RX2.1
            have SX3 := Aside0.mk (S_other SX.out RX.out (fun q hq => (E45 q hq).2) (by have h := RX2.2; exact h) : Lies (wr.setCell ⟨g7, i, none⟩ (.int .u8 90)) _)
            have BX3 := Aside0.mk (blk_far BX.out (p := ⟨g7, i, none⟩) hne (.int .u8 90))
            have HBX3 := Aside0.mk (below_set (j := i) (v := .int .u8 90) HBX.out hg7)
            clear RX2 RX SX BX HBX hne
            go_wp2_with fail
            go_roundg (b.length + 1 - (i + 1))
            case measure => omega
            case rel => exact ⟨i + 1, _, by omega, by go_num, RX3, HBX3, SX3, BX3⟩
          · have hcx := blk_cell BX.out
            have HOx := Aside0.mk (HO.out.below HBX.out)
            have hM8 := blk_lt BX.out
            have hone := Aside0.mk (show (Kd.raw 5).M wr w.heap.size (fun _ => False) (anOf b (.slice A8 (getF b).2.2.2.2.1.length c8) w7.heap.size W8.heap.size).cells [.int .i64 G.1, .int .i64 G.2.1, .int .i64 G.2.2.1, .int .i64 G.2.2.2.1, .slice A8 G.2.2.2.2.1.length c8] from ⟨by rw [HG.out]; rfl, rfl, fun u hu => by
              simp only [List.mem_cons, List.not_mem_nil, or_false] at hu
              rcases hu with rfl | rfl | rfl | rfl | rfl <;> rfl⟩)
            have hkl : ((T.map An.cells).length + 1) * 56 ≤ 140737488355328 := by rw [List.length_map, HTL.out]; omega
            go_wp2_with (((with_reducible refine gate_builtin (b := .append) (xs := #[.tmp 92, .tmp 94]) rfl ?_); at_builtin; go_loud (refine Kd.R_append (Kd.raw 5) (w0 := w) w.heap.size rfl (.tmp 92) (.tmp 94) 37 27 (.agg #[.int .i64 0, .int .i64 0, .int .i64 0, .int .i64 0, .slice none 0 0]) 56 rfl Try.underlying37 info27 rfl (by decide) (by decide) u5 (T.map An.cells) (anOf b (.slice A8 (getF b).2.2.2.2.1.length c8) w7.heap.size W8.heap.size).cells [.int .i64 G.1, .int .i64 G.2.1, .int .i64 G.2.2.1, .int .i64 G.2.2.2.1, .slice A8 G.2.2.2.2.1.length c8] (fun _ => True) (fun _ => False) rfl rfl hone.out (fun _ h => h.elim) (fun _ _ => trivial) HOx.out.2.1 HOx.out.1 HOx.out.1.size hkl ?_); intro v1 w6' r6 b6 g6 _; have HOy := Aside0.mk (HOx.out.snoc _ SX.out (fun t y hy => Nat.le_trans (HO.out.2.2 t y hy).2.2.1 hN7.out) (Nat.le_trans HO.out.1.size hN7.out) (Nat.le_of_lt hM8) r6 g6 b6); clear r6 b6 g6))
            go_roundg (3 - (k + 1))
            case measure => omega
            case rel => exact ⟨k + 1, T ++ [anOf b (.slice A8 (getF b).2.2.2.2.1.length c8) w7.heap.size W8.heap.size], by omega, by go_num, by rw [List.length_append, HTL.out]; rfl, HOy, ⟨fun t x hx => by
              rcases Nat.lt_or_ge t T.length with ht | ht
              · rw [List.getElem?_append_left ht] at hx
                exact HA.out t x hx
              · rw [List.getElem?_append_right ht] at hx
                have hxx : x = anOf b (.slice A8 (getF b).2.2.2.2.1.length c8) w7.heap.size W8.heap.size ∧ t = k := by
                  cases hq : t - T.length with
                  | zero => rw [hq] at hx; exact ⟨(Option.some.inj hx).symm, by have := HTL.out; omega⟩
                  | succ m => rw [hq] at hx; cases hx
                obtain ⟨rfl, rfl⟩ := hxx
                rw [← HPK.out]
                rfl⟩⟩
    · have hk3' : k = 3 := by omega
      subst hk3'
      obtain ⟨go, co, hgo, _, _, _⟩ := Kd.R_form HO.out.2.1 (by rw [List.length_map, HTL.out]; omega)
      rw [List.length_map, HTL.out] at hgo
      subst hgo
      clear hk hk3
      go_wp2_with fail
      go_loopg [14] 3 (fun kq s14 wx => ∃ (j : Nat), j + kq = 3 ∧ s14 = .int .i64 (j : Int) ∧ Aside0 (Outs w wx (.slice (some ⟨go, 0, none⟩) 3 co) T j))
      case atStart => exact ⟨0, by omega, rfl, HO⟩
      case round =>
        clear HO
        obtain ⟨j, hj, rfl, HO⟩ := hrel
        by_cases hj3 : j < 3
        · go_upto_if 102 with (fail)
          go_cut [15] (fun v15 wc => v15 = .slice (pick j A0 A1) (pick j b0 b1).length (pick j c0 c1) ∧ wr = wc)
          case first =>
            by_cases hk1 : j = 1
            · subst hk1
              go_wp2
              go_meet
              case rel => exact ⟨rfl, rfl⟩
            · have e1 : ((j : Int) == 1) = false := by simpa using (by omega : (j : Int) ≠ 1)
              have e2 : (j == 1) = false := by simpa using hk1
              have E := Aside0.mk (show ∀ {α : Type} (x y : α), pick j x y = x from fun x y => if_neg hk1)
              clear hk1
              go_wp2
              go_meet
              case rel => exact ⟨by rw [E.out, E.out, E.out], rfl⟩
          case rest =>
            obtain ⟨rfl, rfl⟩ := hcut
            obtain ⟨b, hb⟩ : ∃ b, b = pick j b0 b1 := ⟨_, rfl⟩
            obtain ⟨A, hA⟩ : ∃ A, A = pick j A0 A1 := ⟨_, rfl⟩
            obtain ⟨c, hc⟩ : ∃ c, c = pick j c0 c1 := ⟨_, rfl⟩
            have HT := Aside0.mk (show Byt w A c b by rw [hb, hA, hc]; unfold pick; split; exact HT1.out; exact HT0.out)
            have BY := Aside0.mk (show byt b by rw [hb]; unfold pick; split; exact BY1.out; exact BY0.out)
            have hl : b.length ≤ 2147483647 := by rw [hb]; unfold pick; split <;> omega
            rw [← hb, ← hA, ← hc]
            obtain ⟨x, hx⟩ : ∃ x, T[j]? = some x := ⟨_, List.getElem?_eq_getElem (by have := HTL.out; omega)⟩
            have hxe := HA.out j x hx
            rw [← hb] at hxe
            have HX := Aside0.mk hx
            have HXE := Aside0.mk hxe
            have hbc : b.length ≤ c := HT.out.2
            obtain ⟨wr0, rfl⟩ : ∃ wr0 : World, wr0 = wr := ⟨_, rfl⟩
            clear hb hA hc hx hxe
            go_wp2_with fail
            refine (rget_all2 A c b _ ⟨Kd.C_below HT.out.1 HO.out.1, hbc⟩ BY.out (by omega)).mono ?_
            rintro e W4 ⟨v4, rfl, s4, b4⟩
            obtain ⟨A4, c4, rfl⟩ := Kd.S_slice s4
            obtain ⟨G, hG⟩ : ∃ G, G = getF b := ⟨_, rfl⟩
            rw [← hG] at s4 ⊢
            have HG := Aside0.mk hG
            have S4 := Aside0.mk s4
            have HO4 := Aside0.mk (HO.out.below b4)
            clear s4 b4 hG
            go_wp2_with fail
            obtain ⟨W5, hW5⟩ : ∃ X, X = W4.alloc (.cells #[.int .i64 G.1, .int .i64 G.2.1, .int .i64 G.2.2.1, .int .i64 G.2.2.2.1, .slice A4 G.2.2.2.2.1.length c4] 27) := ⟨_, rfl⟩
            have HO5 := Aside0.mk (show Outs w W5 (.slice (some ⟨go, 0, none⟩) 3 co) T j by rw [hW5]; exact HO4.out.below (below_alloc (Below.refl _ _) _))
            have hcw := blk_cell (show W5.heap[W4.heap.size]? = some (.cells #[.int .i64 G.1, .int .i64 G.2.1, .int .i64 G.2.2.1, .int .i64 G.2.2.2.1, .slice A4 G.2.2.2.2.1.length c4] 27 (0, 0)) by rw [hW5]; exact heap_alloc_new W4 _)
            have hCwant := Aside0.mk (show Kd.R k45 45 W5 wr0.heap.size (fun k => wr0.heap.size ≤ k) (.slice A4 G.2.2.2.2.1.length c4) G.2.2.2.2.1 by rw [hW5]; exact Kd.R_alloc (R_of_A S4.out) _)
            rw [← hW5]
            obtain ⟨Ax, cx, hxv⟩ := Kd.S_slice ((HO5.out.2.2 j x HX.out).1 (Nat.le_refl _))
            have hxl : x.l = G.2.2.2.2.1 := by rw [HXE.out, HG.out]; rfl
            have hxa : x.a0 = G.1 ∧ x.a1 = G.2.1 ∧ x.a2 = G.2.2.1 ∧ x.a3 = G.2.2.2.1 := by rw [HXE.out, HG.out]; exact ⟨rfl, rfl, rfl, rfl⟩
            rw [hxl] at hxv
            have HXL := Aside0.mk hxl
            have HXA := Aside0.mk hxa
            have HXV := Aside0.mk hxv
            have hfew := getF_few BY.out (by omega)
            rw [← HG.out] at hfew
            have HFEW := Aside0.mk hfew
            have hl31 : G.2.2.2.2.1.length ≤ 1099511627776 := hfew.1.1
            obtain ⟨Ks, hKs⟩ := same_self G.1 G.2.1 G.2.2.1 G.2.2.2.1 G.2.2.2.2.1 (by omega) hfew.2
            have HKS := Aside0.mk hKs
            have HCX := Aside0.mk (fun (W : World) (jj : Nat) (h : Outs w W (.slice (some ⟨go, 0, none⟩) 3 co) T jj) => Outs.cells h HX.out HTL.out.symm)
            rw [HXA.out.1, HXA.out.2.1, HXA.out.2.2.1, HXA.out.2.2.2, HXV.out] at HCX
            obtain ⟨q0, q1, q2, q3, q4⟩ := HCX.out W5 j HO5.out
            have HLX := Aside0.mk (fun (W : World) (h : Outs w W (.slice (some ⟨go, 0, none⟩) 3 co) T j) => (h.2.2 j x HX.out).1 (Nat.le_refl _))
            have hHO5d := Aside0.mk (show Outs w W5.drew (.slice (some ⟨go, 0, none⟩) 3 co) T j from HO5.out.below (below_drew (Below.refl _ _)))
            clear hW5 hxv hxl hxa hfew hKs HO4 S4 HO
            go_region_law (first
              | (refine goes_ (N := some 114) Try.func13 (by kernel_rfl) rfl #[.agg #[.int .i64 G.1, .int .i64 G.2.1, .int .i64 G.2.2.1, .int .i64 G.2.2.2.1, .slice Ax G.2.2.2.2.1.length cx], .agg #[.int .i64 G.1, .int .i64 G.2.1, .int .i64 G.2.2.1, .int .i64 G.2.2.2.1, .slice A4 G.2.2.2.2.1.length c4]] (by rfl) rfl rfl (by simp only [List.map_toArray, List.map_cons, List.map_nil]; rfl) ?_; have hlx := R_of_A (HLX.out _ hHO5d.out); rw [HXL.out, HXV.out] at hlx; refine (platenlaw20_same.calls Ks G.1 G.2.1 G.2.2.1 G.2.2.2.1 Ax cx G.2.2.2.2.1 G.1 G.2.1 G.2.2.1 G.2.2.2.1 A4 c4 G.2.2.2.2.1 true _ (Kd.R_reads' hlx).2.2 (Kd.R_reads' hlx).2.1 (Kd.C_below (Kd.R_reads' hCwant.out).2.2 (below_drew (Below.refl _ _))) (Kd.R_reads' hCwant.out).2.1 (HKS.out _ (Nat.le_refl _))).mono ?_; rintro e5 W6 ⟨rfl, b6⟩; refine ⟨_, rfl, ?_⟩; have HO6 := Aside0.mk (hHO5d.out.below b6); obtain ⟨r0, r1, r2, r3, r4⟩ := HCX.out W6 j HO6.out; clear b6 hlx)
              | (refine goes_ (N := some 121) Try.func17 (by kernel_rfl) rfl #[.agg #[.int .i64 G.1, .int .i64 G.2.1, .int .i64 G.2.2.1, .int .i64 G.2.2.2.1, .slice Ax G.2.2.2.2.1.length cx]] (by rfl) rfl rfl (by simp only [List.map_toArray, List.map_cons, List.map_nil]; rfl) ?_; have hlx := Kd.S_lower (Kd.S_bound (HLX.out _ HO6.out)) (HO6.out.2.2 j x HX.out).2.1; rw [HXL.out, HXV.out] at hlx; refine (spoils_calls G.1 G.2.1 G.2.2.1 G.2.2.2.1 Ax cx G.2.2.2.2.1 w W6 w.heap.size _ hlx HO6.out.1 HO6.out.1.size HFEW.out.1.1 HFEW.out.1.2.1 HFEW.out.1.2.2).mono ?_; rintro e6 W7 ⟨rfl, k7, b7⟩; refine ⟨_, rfl, ?_⟩; have HO7 := Aside0.mk (HO6.out.spoil HX.out k7 b7); clear k7 b7 hlx))
            all_goals
              go_wp2_with fail
              go_roundg (3 - (j + 1))
              case measure => omega
              case rel => exact ⟨j + 1, by omega, by go_num, HO7⟩
        · go_wp2_with fail
          go_ret
          exact ⟨rfl, HO.out.1⟩
end Go.Proofs.Ytihiapjfdgoomaa.A
namespace Go.Proofs.Ytihiapjfdgoomaa.answerReads
open Go.ChangeShapes Go.WideShapes Go.ChangeAt Go.RowKit Go.Proofs.Ytihiapjfdgoomaa.A Go.Proofs.Ytihiapjfdgoomaa.P Go.Proofs.YtihiapjfdgoomaaW.Opened
set_option linter.unusedVariables false
theorem own : ownKnob Try.prog.godebug = none := by kernel_rfl
theorem laidOut : laidOutB Try.prog = true := by kernel_rfl
theorem c5 : Try.prog.cellsOf 5 = 1 := by kernel_rfl
theorem wf_byte {n : Int} (h : (Lit.int .u8 n).wf = true) : 0 ≤ n ∧ n < 256 := by
  simp [Lit.wf, IntKind.min, IntKind.max, IntKind.bits, IntKind.signed] at h
  omega
set_option maxRecDepth 100000 in
theorem lifted (os : Os) (started : os.Started) (H : Type) (enc : TypeId × Value → H) :
    ReturnsInHanded {} Try.checked os 4 .any (Rows.answerReadsSpec.pre6 enc Try.prog Try.f4 Rows.answerReadsRow.domain false) (Rows.answerReadsSpec.post enc Try.prog Try.f4 false true false false) := by
  refine returnsInHanded_of_change (C := Try.checked) own started (by kernel_rfl) Try.func4
    (ChangeSpec.witness6 (enc := enc) (C := Try.checked) false ⟨#[], #[.slice none 0 0, .slice none 0 0], []⟩ 8 (by kernel_rfl) (by kernel_rfl) (by kernel_rfl) (by kernel_rfl)) ?_
  intro W base args ds gs before hval0 hW hcnd _
  have hval : ∀ (j : Nat) t v, Try.f4.params[j]? = some t → args[j]? = some v → Value.okWide Try.prog W .any base t v := hval0
  have hW' := hW
  obtain ⟨p, q, hA0, hV, rfl, hfz, hnd⟩ := hW
  have hA : DataW.TrodAll enc Try.prog W 0 (fun _ => true) true Try.f4.params.toList args.toList ds p := hA0
  rw [Try.params4] at hA hval
  obtain ⟨v0, vs0, d0, ds0, p0, q0, hargs, rfl, rfl, h0, r0⟩ := trodAll_cons hA
  obtain ⟨v1, vs1, d1, ds1, p1, q1, rfl, rfl, rfl, h1, r1⟩ := trodAll_cons r0
  obtain ⟨rfl, rfl, rfl⟩ := trodAll_nil r1
  obtain rfl : args = #[v0, v1] := by cases args; simp_all
  obtain ⟨rfl, rfl⟩ := trodVars_none hV
  have lt0 : ∀ x ∈ p0, x.block < W.heap.size := by obtain ⟨m, hm⟩ := h0; exact DataW.trod_lt m _ _ _ hm
  have lt1 : ∀ x ∈ p1, x.block < W.heap.size := by obtain ⟨m, hm⟩ := h1; exact DataW.trod_lt m _ _ _ hm
  obtain ⟨A0, len0, c0, rfl⟩ := okWide_slice Try.underlying32 (hval 0 32 v0 rfl rfl)
  obtain ⟨A1, len1, c1, rfl⟩ := okWide_slice Try.underlying32 (hval 1 32 v1 rfl rfl)
  have k0 := h0
  have k1 := h1
  obtain ⟨m0, hm0⟩ := h0
  obtain ⟨m1, hm1⟩ := h1
  obtain ⟨b0, A0', c0', e0, hc0, _, hC0, hb0⟩ := slice_opens Try.underlying32 c5 (opens_int Try.underlying5) hm0
  have e0' : (A0, len0, c0) = (A0', b0.length, c0') := by simpa [Value.cells] using e0
  cases e0'
  obtain ⟨b1, A1', c1', e1, hc1, _, hC1, hb1⟩ := slice_opens Try.underlying32 c5 (opens_int Try.underlying5) hm1
  have e1' : (A1, len1, c1) = (A1', b1.length, c1') := by simpa [Value.cells] using e1
  cases e1'
  clear hA0 hval0
  refine (reads_walk A0 A1 c0 c1 b0 b1 W ⟨hC0, hc0⟩ ⟨hC1, hc1⟩ (fun x hx => wf_byte (hb0 x hx)) (fun x hx => wf_byte (hb1 x hx))).mono fun e W' ⟨he, bel⟩ => ?_
  subst he
  exact ⟨_, rfl, _, _, _, [], _, [], hW', trodAll_mk1 (shut_bool Try.underlying4 _), trodAll_cons_mk (Below.trod laidOut (by kernel_rfl) (of_decide_eq_true (by kernel_rfl)) k0 bel lt0) (trodAll_cons_mk (Below.trod laidOut (by kernel_rfl) (of_decide_eq_true (by kernel_rfl)) k1 bel lt1) trodAll_mk0), rfl, bel.frame _, fun h => by cases h⟩
theorem proved : Rows.AnswerReadsSaid :=
  OpenClaim.holds_of_wide 4 Try.f4 rfl rfl rfl rfl rfl rfl rfl ⟨rfl, rfl, rfl, rfl, rfl⟩ rfl rfl rfl rfl rfl (by kernel_rfl) Try.func4 (by kernel_rfl)
    (of_decide_eq_true (by kernel_rfl)) (by unfold Func.isWrapper; first | (rw [if_pos (by decide +kernel)]; kernel_rfl) | (rw [if_neg (by decide +kernel)]; exact ⟨rfl, rfl⟩))
    (fun os started H enc _ => lifted os started H enc)
end Go.Proofs.Ytihiapjfdgoomaa.answerReads
namespace Go.Proofs.Ytihiapjfdgoomaa
theorem answerReads_holds : Rows.AnswerReadsSaid := answerReads.proved
#print axioms answerReads_holds
end Go.Proofs.Ytihiapjfdgoomaa
