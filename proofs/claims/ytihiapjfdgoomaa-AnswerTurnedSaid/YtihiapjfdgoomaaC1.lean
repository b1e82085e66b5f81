/- Closed facts for platenlaw20.shown. platenlaw20.shown: it answers true. -/
import Derived.Test.YtihiapjfdgoomaaB9
import Derived.Test.YtihiapjfdgoomaaPx8
namespace Go.Proofs.Ytihiapjfdgoomaa.A
open Go.RowKit Go.Proofs.YtihiapjfdgoomaaW.PrintWords Go.Proofs.YtihiapjfdgoomaaW.PrintLast Go.Proofs.YtihiapjfdgoomaaW.PrintMore
open Go.Proofs.Ytihiapjfdgoomaa.P
set_option linter.unusedVariables false
set_option linter.unusedSimpArgs false

abbrev E0 : List Int := putB 0 0 0 0 []
theorem e0_get : getF E0 = (0, 0, 0, 0, [], 0) := by kernel_rfl
theorem e0_len : E0.length = 56 := by kernel_rfl
theorem e0_mark : (strOfNums (E0.take 8)) = ⟨#[112, 108, 97, 116, 101, 110, 65, 49]⟩ := by kernel_rfl
abbrev B1 : S50 := ⟨0, 0, ⟨#[70]⟩, 0, 0, 0, 0, 0, 0, 0⟩
abbrev R1 : S48 := ⟨0, false, false, [B1]⟩
abbrev P1 : S45 := ⟨0, 0, false, [R1]⟩
theorem e1_len : (bodyB 0 0 0 0 [P1]).length = 172 := by kernel_rfl
/-- A row of one element. -/
theorem C_one {α : Type} {d : Kd α} {w : World} {g t : Nat} {x : α} {cs : List Value} (hb : w.heap[g]? = some (.cells cs.toArray t (0, 0))) (hK : d.K w x cs) : d.C w (some ⟨g, 0, none⟩) 1 [x] := by
  refine ⟨rfl, by decide, fun _ => ⟨_, rfl, fun j p hj => ?_⟩⟩
  cases j with
  | zero =>
    cases hj
    refine ⟨cs, d.K_len hK, hK, fun i u hu => ?_⟩
    have h := blk_cell hb i
    simp only [List.getElem?_toArray] at h
    rw [hu] at h
    rcases i with _ | i <;> simpa [Addr.add] using h
  | succ j => simp at hj
end Go.Proofs.Ytihiapjfdgoomaa.A
namespace Go.Proofs.Ytihiapjfdgoomaa.A
open Go.RowKit Go.Proofs.YtihiapjfdgoomaaW.PrintWords Go.Proofs.YtihiapjfdgoomaaW.PrintLast Go.Proofs.YtihiapjfdgoomaaW.PrintMore
open Go.Proofs.Ytihiapjfdgoomaa.P
set_option linter.unusedVariables false
set_option linter.unusedSimpArgs false

abbrev o50 : Obj := .cells #[.int .i64 0, .int .i64 0, .string { data := #[70] }, .int .i64 0, .int .i64 0, .int .i64 0, .int .i64 0, .int .i64 0, .int .i64 0, .int .i64 0] 50
abbrev o48 (g : Nat) : Obj := .cells #[.int .i64 0, .bool false, .bool false, .slice (some ⟨g, 0, none⟩) 1 1] 48
abbrev o45 (g : Nat) : Obj := .cells #[.int .i64 0, .int .i64 0, .bool false, .slice (some ⟨g, 0, none⟩) 1 1] 45
theorem heap_alloc_old (w : World) (o : Obj) {g : Nat} {x : Obj} (h : w.heap[g]? = some x) : (w.alloc o).heap[g]? = some x := (Below.heap_alloc w _ _ (blk_lt h)).trans h
theorem shown_arg (w : World) : Kd.C k45 (((w.alloc o50).alloc (o48 w.heap.size)).alloc (o45 (w.heap.size + 1))) (some ⟨w.heap.size + 1 + 1, 0, none⟩) ([P1] : List S45).length [P1] := by
  have h1 : (w.alloc o50).heap[w.heap.size]? = some o50 := heap_alloc_new w _
  have h2 : ((w.alloc o50).alloc (o48 w.heap.size)).heap[w.heap.size + 1]? = some (o48 w.heap.size) := by simpa using heap_alloc_new (w.alloc o50) (o48 w.heap.size)
  have h3 : (((w.alloc o50).alloc (o48 w.heap.size)).alloc (o45 (w.heap.size + 1))).heap[w.heap.size + 1 + 1]? = some (o45 (w.heap.size + 1)) := by simpa using heap_alloc_new ((w.alloc o50).alloc (o48 w.heap.size)) (o45 (w.heap.size + 1))
  have c1 := C_one (d := k50) (x := B1) (cs := [.int .i64 0, .int .i64 0, .string { data := #[70] }, .int .i64 0, .int .i64 0, .int .i64 0, .int .i64 0, .int .i64 0, .int .i64 0, .int .i64 0]) (heap_alloc_old _ (o45 (w.heap.size + 1)) (heap_alloc_old _ (o48 w.heap.size) h1)) (k50_mk _ B1)
  have c2 := C_one (d := k48) (x := R1) (cs := [.int .i64 0, .bool false, .bool false, .slice (some ⟨w.heap.size, 0, none⟩) 1 1]) (heap_alloc_old _ (o45 (w.heap.size + 1)) h2) (k48_mk _ R1 (A3 := some ⟨w.heap.size, 0, none⟩) (c3 := 1) (Nat.le_refl _) c1)
  exact C_one (d := k45) (x := P1) (cs := [.int .i64 0, .int .i64 0, .bool false, .slice (some ⟨w.heap.size + 1, 0, none⟩) 1 1]) h3 (k45_mk _ P1 (A3 := some ⟨w.heap.size + 1, 0, none⟩) (c3 := 1) (Nat.le_refl _) c2)
theorem e1_put : putF 0 0 0 0 [P1] = some (putB 0 0 0 0 [P1], 0) := by
  unfold putF
  rw [if_neg (by decide), if_pos (by rw [e1_len]; decide)]
theorem e1_plen : (putB 0 0 0 0 [P1]).length = 180 := by kernel_rfl
set_option maxHeartbeats 1000000 in
set_option maxRecDepth 100000 in
theorem shown_calls (w : World) : Calls Try.prog 8 #[] w fun e w' => e = .returned (.bool true) ∧ Below w.heap.size w w' := by
  go_enter Try.func8, Try.ntmps8
  go_wp2_with fail
  refine (put_all 0 0 0 0 none 0 [] E0 0 w (Kd.C_nil _ _) (Nat.le_refl _) rfl).mono ?_
  rintro e W1 ⟨v1, rfl, r1, b1⟩
  obtain ⟨A1, c1, hv1, hc1, hr1⟩ := Kd.R_reads r1
  subst hv1
  rw [e0_len] at hc1 hr1
  rw [e0_len]
  have HR1 := Aside0.mk hr1
  have H1 := Aside0.mk b1
  clear r1 b1 hr1
  go_wp2_with fail
  refine (put_all 0 0 (-1) 0 none 0 [] [] 200 W1 (Kd.C_nil _ _) (Nat.le_refl _) rfl).mono ?_
  rintro e W2 ⟨v2, rfl, r2, b2⟩
  have H2 := Aside0.mk (below_step H1.out b2)
  have HR2 := Aside0.mk (Kd.C_below HR1.out b2)
  clear r2 b2 H1 HR1
  go_wp2_with fail
  refine (put_all 0 0 0 0 (some ⟨W2.heap.size + 1 + 1, 0, none⟩) 1 [P1] _ 0 _ (shown_arg W2) (Nat.le_refl _) e1_put).mono ?_
  rintro e W3 ⟨v3, rfl, r3, b3⟩
  obtain ⟨A3, c3, hv3, hc3, hr3⟩ := Kd.R_reads r3
  subst hv3
  rw [e1_plen] at hc3
  rw [e1_plen]
  have hb23 : Below w.heap.size w W3 := below_step (by repeat (first | exact H2.out | apply below_alloc)) b3
  have hr23 := Kd.C_below (Kd.C_alloc (Kd.C_alloc (Kd.C_alloc HR2.out _) _) _) b3
  have H3 := Aside0.mk hb23
  have HR3 := Aside0.mk hr23
  clear r3 b3 hr3 HR2 H2 hb23 hr23
  go_wp2_with fail
  refine (get_all none 0 [] W3 (Kd.C_nil _ _) (Nat.le_refl _) (by decide)).mono ?_
  rintro e W4 ⟨v4, rfl, r4, b4⟩
  have g0' : getF [] = (0, 0, 0, 0, [], 200) := by kernel_rfl
  rw [g0'] at r4
  simp only [g0']
  obtain ⟨A4, c4, hv4⟩ := Kd.S_slice r4
  subst hv4
  have hb34 := below_step H3.out b4
  have hr34 := Kd.C_below HR3.out b4
  have H4 := Aside0.mk hb34
  have HR4 := Aside0.mk hr34
  clear r4 b4 hb34 hr34 HR3 H3 g0'
  go_wp2_with fail
  have hg := fun W (h : Kd.C (Kd.int .u8) W A1 E0.length E0) => get_all A1 c1 E0 W h (by rw [e0_len]; exact hc1) (by rw [e0_len]; decide)
  rw [e0_len] at hg
  refine (hg _ (Kd.C_alloc HR4.out _)).mono ?_
  rintro e W5 ⟨v5, rfl, r5, b5⟩
  rw [e0_get] at r5
  simp only [e0_get]
  obtain ⟨A5, c5, hv5, hc5, hr5⟩ := Kd.S_reads r5
  subst hv5
  have hb45 := below_step (below_alloc H4.out _) b5
  have hr45 := Kd.C_below (Kd.C_alloc HR4.out _) b5
  have h8 : (E0.take 8).length = 8 := by kernel_rfl
  have hcv : (convert 32 9 (.slice A1 8 c1)).run Try.prog (W5.alloc (.cells #[.int .i64 0, .int .i64 0, .int .i64 0, .int .i64 0, .slice A5 0 c5] 27)) = .ok (.string ⟨#[112, 108, 97, 116, 101, 110, 65, 49]⟩) (W5.alloc (.cells #[.int .i64 0, .int .i64 0, .int .i64 0, .int .i64 0, .slice A5 0 c5] 27)) := by
    have h := Kd.C_alloc (Kd.C_take (m := 8) (xs := E0) (by rw [e0_len]; exact hr45) (by rw [e0_len]; decide)) (.cells #[.int .i64 0, .int .i64 0, .int .i64 0, .int .i64 0, .slice A5 0 c5] 27)
    have h2 := Kd.C_string (c := c1) Try.underlying32 Try.underlying5 Try.underlying9 h
    rw [h8, e0_mark] at h2
    exact h2
  have hc8 : 8 ≤ c1 := by omega
  have HR5 := Aside0.mk (Kd.C_alloc hr5 (.cells #[.int .i64 0, .int .i64 0, .int .i64 0, .int .i64 0, .slice A5 ([] : List S45).length c5] 27))
  have H5 := Aside0.mk (below_alloc hb45 (.cells #[.int .i64 0, .int .i64 0, .int .i64 0, .int .i64 0, .slice A5 ([] : List S45).length c5] 27))
  clear r5 b5 hr5 hr45 hb45 HR4 H4 hg h8
  go_wp2_with fail
  refine (platenlaw20_same.calls 5 0 0 0 0 A5 c5 [] 0 0 0 0 none 0 [] true _ HR5.out (Nat.zero_le _) (Kd.C_nil _ _) (Nat.le_refl _) (by kernel_rfl)).mono ?_
  rintro e W6 ⟨rfl, h6⟩
  have H6 := Aside0.mk (below_step H5.out h6)
  clear h6
  clear hcv hc8 H5 HR5
  go_wp2
  exact bodyPost_ret (v := .bool true) (by simp [results, Try.results8, go_sem]) rfl ⟨rfl, H6.out⟩
end Go.Proofs.Ytihiapjfdgoomaa.A
