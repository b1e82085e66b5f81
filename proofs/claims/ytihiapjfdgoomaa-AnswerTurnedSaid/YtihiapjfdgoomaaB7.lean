/- Contracts of the reader of package answer: boxes. Contracts of the reader of package answer: rows. Contracts of the reader of package answer: pages. What Get answers, and the kind of its pages. -/
import Derived.Test.YtihiapjfdgoomaaB3
import Derived.Deep.RegionLaw
import Derived.Test.YtihiapjfdgoomaaA4
namespace Go.Proofs.Ytihiapjfdgoomaa.A
open Go.RowKit Go.Proofs.YtihiapjfdgoomaaW.PrintWords Go.Proofs.YtihiapjfdgoomaaW.PrintLast Go.Proofs.YtihiapjfdgoomaaW.PrintMore
open Go.Proofs.Ytihiapjfdgoomaa.P
set_option linter.unusedVariables false
set_option linter.unusedSimpArgs false

abbrev St := List Int × Bool
def nv (s : St) : Int := (numR s.1 s.2).1
def ns (s : St) : St := (numR s.1 s.2).2
def tv (s : St) : ByteArray := (txtR s.1 s.2).1
def ts (s : St) : St := (txtR s.1 s.2).2
def bv (s : St) : Bool := (truR s.1 s.2).1
def bs (s : St) : St := (truR s.1 s.2).2

/-- A reader and blocks of the call's own. -/
def Fr (w0 w W : World) (g : Nat) (s : St) (L : List (Nat × Nat × Array Value)) : Prop :=
  IsRd w0 W g s.1 s.2 ∧ Below w0.heap.size w0 W ∧ KeepBut w W g none ∧ ∀ x ∈ L, W.heap[x.1]? = some (.cells x.2.2 x.2.1 (0, 0)) ∧ x.1 ≠ g ∧ w.heap.size ≤ x.1 ∧ w0.heap.size ≤ x.1
section
variable {w0 w W W1 : World} {g : Nat} {s s1 : St} {L : List (Nat × Nat × Array Value)}
theorem Fr.rd (h : Fr w0 w W g s L) : IsRd w0 W g s.1 s.2 := h.1
theorem Fr.bel (h : Fr w0 w W g s L) : Below w0.heap.size w0 W := h.2.1
theorem Fr.keep (h : Fr w0 w W g s L) : KeepBut w W g none := h.2.2.1
theorem Fr.start (h : IsRd w0 w g s.1 s.2) (hB : Below w0.heap.size w0 w) : Fr w0 w w g s [] := ⟨h, hB, KeepBut.refl _ _ _, fun x hx => by simp at hx⟩
theorem Fr.alloc (h : Fr w0 w W g s L) (cs : Array Value) (t : Nat) : Fr w0 w (W.alloc (.cells cs t)) g s ((W.heap.size, t, cs) :: L) := by
  obtain ⟨hI, hB, hK, hL⟩ := h
  refine ⟨hI.alloc _, below_alloc hB _, keep_alloc hK _, fun x hx => ?_⟩
  rcases List.mem_cons.1 hx with rfl | hx
  · exact ⟨heap_alloc_new W _, by have := hI.lt; simp; omega, hK.1, hB.size⟩
  · obtain ⟨h1, h2, h3, h4⟩ := hL x hx
    exact ⟨(Below.heap_alloc W _ _ (blk_lt h1)).trans h1, h2, h3, h4⟩
theorem Fr.call (h : Fr w0 w W g s L) (hI : IsRd w0 W1 g s1.1 s1.2) (hB : Below w0.heap.size w0 W1) (hK : KeepBut W W1 g none) : Fr w0 w W1 g s1 L :=
  ⟨hI, hB, KeepBut.then_ h.2.2.1 hK, fun x hx => by
    obtain ⟨h1, h2, h3, h4⟩ := h.2.2.2 x hx
    exact ⟨hK.blk h1 h2 (by simp), h2, h3, h4⟩⟩
theorem Fr.set (b t : Nat) (cs : Array Value) (h : Fr w0 w W g s ((b, t, cs) :: L)) (hL : ∀ x ∈ L, x.1 ≠ b) (j : Nat) (u : Value) : Fr w0 w (W.setCell ⟨b, j, none⟩ u) g s ((b, t, cs.setIfInBounds j u) :: L) := by
  obtain ⟨⟨A, c, hb, hg, hT⟩, hB, hK, hL'⟩ := h
  obtain ⟨h1, h2, h3, h4⟩ := hL' _ (List.mem_cons_self)
  refine ⟨⟨A, c, blk_far hb (p := ⟨b, j, none⟩) (fun e => h2 e.symm) u, hg, hT⟩, ?_, keep_far hK (p := ⟨b, j, none⟩) h3 u, fun x hx => ?_⟩
  · exact hB.setCell (p := ⟨b, j, none⟩) h4 u
  · rcases List.mem_cons.1 hx with rfl | hx
    · exact ⟨blk_set h1 j u, h2, h3, h4⟩
    · obtain ⟨k1, k2, k3, k4⟩ := hL' x (List.mem_cons_of_mem _ hx)
      exact ⟨blk_far k1 (p := ⟨b, j, none⟩) (hL x hx) u, k2, k3, k4⟩
theorem Fr.sub {L' : List (Nat × Nat × Array Value)} (h : Fr w0 w W g s L) (hs : ∀ x ∈ L', x ∈ L) : Fr w0 w W g s L' := ⟨h.1, h.2.1, h.2.2.1, fun x hx => h.2.2.2 x (hs x hx)⟩
theorem Fr.blk (h : Fr w0 w W g s L) {b t : Nat} {cs : Array Value} (hm : (b, t, cs) ∈ L) : W.heap[b]? = some (.cells cs t (0, 0)) := (h.2.2.2 _ hm).1
theorem Fr.ge (h : Fr w0 w W g s L) {b t : Nat} {cs : Array Value} (hm : (b, t, cs) ∈ L) : w.heap.size ≤ b := (h.2.2.2 _ hm).2.2.1
theorem Fr.lt (h : Fr w0 w W g s L) {b t : Nat} {cs : Array Value} (hm : (b, t, cs) ∈ L) : b < W.heap.size := blk_lt (h.blk hm)
end
theorem num_s (s : St) {w0 w W : World} {g : Nat} {L : List (Nat × Nat × Array Value)} (h : Fr w0 w W g s L) :
    Calls Try.prog 30 #[.pointer (some ⟨g, 0, none⟩)] W fun e W' => e = .returned (.int .i64 (nv s)) ∧ Fr w0 w W' g (ns s) L :=
  (num_calls g s.1 s.2 w0 W h.rd h.bel).mono fun _ _ ⟨h1, h2, h3, h4⟩ => ⟨h1, h.call h2 h3 h4⟩
theorem text_s (s : St) {w0 w W : World} {g : Nat} {L : List (Nat × Nat × Array Value)} (h : Fr w0 w W g s L) :
    Calls Try.prog 49 #[.pointer (some ⟨g, 0, none⟩)] W fun e W' => e = .returned (.string (tv s)) ∧ Fr w0 w W' g (ts s) L :=
  (text_rd g s.1 s.2 w0 W h.rd h.bel).mono fun _ _ ⟨h1, h2, h3, h4⟩ => ⟨h1, h.call h2 h3 h4⟩
theorem truth_s (s : St) {w0 w W : World} {g : Nat} {L : List (Nat × Nat × Array Value)} (h : Fr w0 w W g s L) :
    Calls Try.prog 41 #[.pointer (some ⟨g, 0, none⟩)] W fun e W' => e = .returned (.bool (bv s)) ∧ Fr w0 w W' g (bs s) L :=
  (truth_rd g s.1 s.2 w0 W h.rd h.bel).mono fun _ _ ⟨h1, h2, h3, h4⟩ => ⟨h1, h.call h2 h3 h4⟩

/-- A box, and what is left. -/
def bxS3 (s : St) : St := ts (ns (ns s))
def bxS (s : St) : St := ns (ns (ns (ns (ns (ns (ns (bxS3 s)))))))
def bxV (s : St) : S50 := ⟨nv s, nv (ns s), tv (ns (ns s)), nv (bxS3 s), nv (ns (bxS3 s)), nv (ns (ns (bxS3 s))), nv (ns (ns (ns (bxS3 s)))), nv (ns (ns (ns (ns (bxS3 s))))), nv (ns (ns (ns (ns (ns (bxS3 s)))))), nv (ns (ns (ns (ns (ns (ns (bxS3 s))))))) ⟩
def bxVal (b : S50) : Value := .agg #[.int .i64 b.f0, .int .i64 b.f1, .string b.f2, .int .i64 b.f3, .int .i64 b.f4, .int .i64 b.f5, .int .i64 b.f6, .int .i64 b.f7, .int .i64 b.f8, .int .i64 b.f9]

set_option maxHeartbeats 1000000 in
set_option maxRecDepth 100000 in
theorem box_s (s : St) {w0 w W : World} {g : Nat} {L : List (Nat × Nat × Array Value)} (h : Fr w0 w W g s L) :
    Calls Try.prog 47 #[.pointer (some ⟨g, 0, none⟩)] W fun e W' => e = .returned (bxVal (bxV s)) ∧ Fr w0 w W' g (bxS s) L ∧ KeepBut W W' g none := by
  have HF := Aside0.mk h
  have H0 := Aside0.mk (Fr.start h.rd h.bel)
  clear h
  go_enter Try.func47, Try.ntmps47
  go_wp2_with fail
  refine (num_s s (Fr.alloc H0.out _ _)).mono ?_
  rintro e W1 ⟨rfl, h⟩
  have H1 := Aside0.mk h
  clear h
  go_wp2_with fail
  refine (num_s _ H1.out).mono ?_
  rintro e W2 ⟨rfl, h⟩
  have H2 := Aside0.mk h
  clear h H1
  go_wp2_with fail
  refine (text_s _ H2.out).mono ?_
  rintro e W3 ⟨rfl, h⟩
  have H3 := Aside0.mk h
  clear h H2
  go_wp2_with fail
  refine (num_s _ (Fr.alloc H3.out _ _)).mono ?_
  rintro e W4 ⟨rfl, h⟩
  have H4 := Aside0.mk h
  have hlt := Aside0.mk (H3.out.lt (List.mem_singleton.2 rfl))
  clear h
  go_wp2_with fail
  refine (num_s _ H4.out).mono ?_
  rintro e W5 ⟨rfl, h⟩
  have H5 := Aside0.mk h
  clear h H4
  go_wp2_with fail
  refine (num_s _ H5.out).mono ?_
  rintro e W6 ⟨rfl, h⟩
  have H6 := Aside0.mk h
  have hc := blk_cell (h.blk (List.mem_cons_self))
  have hf := blk_frozen (h.blk (List.mem_cons_self))
  clear h H5
  have hL : ∀ x ∈ [(W.heap.size, 50, #[Value.int IntKind.i64 0, Value.int IntKind.i64 0, Value.string { data := #[] }, Value.int IntKind.i64 0, Value.int IntKind.i64 0, Value.int IntKind.i64 0, Value.int IntKind.i64 0, Value.int IntKind.i64 0, Value.int IntKind.i64 0, Value.int IntKind.i64 0])], x.1 ≠ W3.heap.size := by
    intro x hx
    rw [List.mem_singleton.1 hx]
    have := hlt.out
    simp only
    omega
  have HL := Aside0.mk hL
  have H6' := Aside0.mk (Fr.set _ _ _ (Fr.set _ _ _ (Fr.set _ _ _ H6.out hL 3 (.int .i64 (nv (ts (ns (ns s)))))) hL 4 (.int .i64 (nv (ns (ts (ns (ns s))))))) hL 5 (.int .i64 (nv (ns (ns (ts (ns (ns s))))))))
  clear hL hlt
  go_wp2_with fail
  refine (num_s _ H6'.out).mono ?_
  rintro e W7 ⟨rfl, h⟩
  have H7 := Aside0.mk h
  clear h H6 H6' hc hf
  go_wp2_with fail
  refine (num_s _ H7.out).mono ?_
  rintro e W8 ⟨rfl, h⟩
  have H8 := Aside0.mk h
  have hc := blk_cell (h.blk (List.mem_cons_self))
  have hf := blk_frozen (h.blk (List.mem_cons_self))
  have H8' := Aside0.mk (Fr.set _ _ _ (Fr.set _ _ _ H8.out HL.out 6 (.int .i64 (nv (ns (ns (ns (ts (ns (ns s))))))))) HL.out 7 (.int .i64 (nv (ns (ns (ns (ns (ts (ns (ns s))))))))))
  clear h H7
  go_wp2_with fail
  refine (num_s _ H8'.out).mono ?_
  rintro e W9 ⟨rfl, h⟩
  have H9 := Aside0.mk h
  clear h H8 H8' hc hf
  go_wp2_with fail
  refine (num_s _ H9.out).mono ?_
  rintro e W10 ⟨rfl, h⟩
  have H10 := Aside0.mk (Fr.set _ _ _ (Fr.set _ _ _ h HL.out 8 (.int .i64 (nv (ns (ns (ns (ns (ns (ts (ns (ns s))))))))))) HL.out 9 (.int .i64 (nv (ns (ns (ns (ns (ns (ns (ts (ns (ns s))))))))))))
  have hc := blk_cell (h.blk (List.mem_cons_self))
  have hf := blk_frozen (h.blk (List.mem_cons_self))
  have hc0 := blk_cell (h.blk (List.mem_cons_of_mem _ (List.mem_singleton.2 rfl)))
  have hf0 := blk_frozen (h.blk (List.mem_cons_of_mem _ (List.mem_singleton.2 rfl)))
  clear h H9

  go_upto_region 5 with (fail)
  clear hc hf hc0 hf0
  obtain ⟨W11, hW⟩ : ∃ X, ((W10.setCell ⟨W3.heap.size, 8, none⟩ (.int .i64 (nv (ns (ns (ns (ns (ns (ts (ns (ns s))))))))))).setCell ⟨W3.heap.size, 9, none⟩ (.int .i64 (nv (ns (ns (ns (ns (ns (ns (ts (ns (ns s)))))))))))) = X := ⟨_, rfl⟩
  have H11 : Fr w0 W W11 g (bxS s) [(W3.heap.size, 50, #[.int .i64 (nv s), .int .i64 (nv (ns s)), .string (tv (ns (ns s))), .int .i64 (nv (ts (ns (ns s)))), .int .i64 (nv (ns (ts (ns (ns s))))), .int .i64 (nv (ns (ns (ts (ns (ns s)))))), .int .i64 (nv (ns (ns (ns (ts (ns (ns s))))))), .int .i64 (nv (ns (ns (ns (ns (ts (ns (ns s)))))))), .int .i64 (nv (ns (ns (ns (ns (ns (ts (ns (ns s))))))))), .int .i64 (nv (ns (ns (ns (ns (ns (ns (ts (ns (ns s))))))))))]), (W.heap.size, 50, #[Value.int IntKind.i64 0, Value.int IntKind.i64 0, Value.string { data := #[] }, Value.int IntKind.i64 0, Value.int IntKind.i64 0, Value.int IntKind.i64 0, Value.int IntKind.i64 0, Value.int IntKind.i64 0, Value.int IntKind.i64 0, Value.int IntKind.i64 0])] := by
    rw [← hW]; have h := H10.out; simp only [List.setIfInBounds_toArray, List.set_cons_zero, List.set_cons_succ] at h; exact h
  rw [hW]
  have HE := Aside0.mk H11
  have hc := blk_cell (H11.blk (List.mem_cons_self))
  have hf := blk_frozen (H11.blk (List.mem_cons_self))
  have hc0 := blk_cell (H11.blk (List.mem_cons_of_mem _ (List.mem_singleton.2 rfl)))
  have hf0 := blk_frozen (H11.blk (List.mem_cons_of_mem _ (List.mem_singleton.2 rfl)))
  have H12 := Aside0.mk (Fr.set _ _ _ (Fr.set _ _ _ (Fr.set _ _ _ (Fr.set _ _ _ (Fr.set _ _ _ (Fr.set _ _ _ (Fr.set _ _ _ (Fr.set _ _ _ (Fr.set _ _ _ (Fr.set _ _ _ (HE.out.sub (L' := [(W.heap.size, 50, #[Value.int IntKind.i64 0, Value.int IntKind.i64 0, Value.string { data := #[] }, Value.int IntKind.i64 0, Value.int IntKind.i64 0, Value.int IntKind.i64 0, Value.int IntKind.i64 0, Value.int IntKind.i64 0, Value.int IntKind.i64 0, Value.int IntKind.i64 0])]) (fun x hx => List.mem_cons_of_mem _ hx)) (fun x hx => absurd hx (by simp)) 0 (.int .i64 (nv s))) (fun x hx => absurd hx (by simp)) 1 (.int .i64 (nv (ns s)))) (fun x hx => absurd hx (by simp)) 2 (.string (tv (ns (ns s))))) (fun x hx => absurd hx (by simp)) 3 (.int .i64 (nv (ts (ns (ns s)))))) (fun x hx => absurd hx (by simp)) 4 (.int .i64 (nv (ns (ts (ns (ns s))))))) (fun x hx => absurd hx (by simp)) 5 (.int .i64 (nv (ns (ns (ts (ns (ns s)))))))) (fun x hx => absurd hx (by simp)) 6 (.int .i64 (nv (ns (ns (ns (ts (ns (ns s))))))))) (fun x hx => absurd hx (by simp)) 7 (.int .i64 (nv (ns (ns (ns (ns (ts (ns (ns s)))))))))) (fun x hx => absurd hx (by simp)) 8 (.int .i64 (nv (ns (ns (ns (ns (ns (ts (ns (ns s))))))))))) (fun x hx => absurd hx (by simp)) 9 (.int .i64 (nv (ns (ns (ns (ns (ns (ns (ts (ns (ns s))))))))))))
  clear hW H10 H11 HL
  go_wp2
  obtain ⟨W12, hW⟩ : ∃ X, ((((((((((W11.setCell ⟨W.heap.size, 0, none⟩ (.int .i64 (nv s))).setCell ⟨W.heap.size, 1, none⟩ (.int .i64 (nv (ns s)))).setCell ⟨W.heap.size, 2, none⟩ (.string (tv (ns (ns s))))).setCell ⟨W.heap.size, 3, none⟩ (.int .i64 (nv (ts (ns (ns s)))))).setCell ⟨W.heap.size, 4, none⟩ (.int .i64 (nv (ns (ts (ns (ns s))))))).setCell ⟨W.heap.size, 5, none⟩ (.int .i64 (nv (ns (ns (ts (ns (ns s)))))))).setCell ⟨W.heap.size, 6, none⟩ (.int .i64 (nv (ns (ns (ns (ts (ns (ns s))))))))).setCell ⟨W.heap.size, 7, none⟩ (.int .i64 (nv (ns (ns (ns (ns (ts (ns (ns s)))))))))).setCell ⟨W.heap.size, 8, none⟩ (.int .i64 (nv (ns (ns (ns (ns (ns (ts (ns (ns s))))))))))).setCell ⟨W.heap.size, 9, none⟩ (.int .i64 (nv (ns (ns (ns (ns (ns (ns (ts (ns (ns s)))))))))))) = X := ⟨_, rfl⟩
  have H13 : Fr w0 W W12 g (bxS s) [(W.heap.size, 50, #[.int .i64 (nv s), .int .i64 (nv (ns s)), .string (tv (ns (ns s))), .int .i64 (nv (ts (ns (ns s)))), .int .i64 (nv (ns (ts (ns (ns s))))), .int .i64 (nv (ns (ns (ts (ns (ns s)))))), .int .i64 (nv (ns (ns (ns (ts (ns (ns s))))))), .int .i64 (nv (ns (ns (ns (ns (ts (ns (ns s)))))))), .int .i64 (nv (ns (ns (ns (ns (ns (ts (ns (ns s))))))))), .int .i64 (nv (ns (ns (ns (ns (ns (ns (ts (ns (ns s))))))))))])] := by
    rw [← hW]; have h := H12.out; simp only [List.setIfInBounds_toArray, List.set_cons_zero, List.set_cons_succ] at h; exact h
  rw [hW]
  clear hc hf hc0 hf0 H12 hW
  have hc := blk_cell (H13.blk (List.mem_cons_self))
  have HFF := Aside0.mk (HF.out.call H13.1 H13.2.1 H13.2.2.1)
  have HKK := Aside0.mk H13.2.2.1
  clear H13 HE HF H0
  refine bodyPost_ret (v := bxVal (bxV s)) (by simp [results, Try.results47, go_sem, hc, bxVal, bxV, bxS3]) rfl ⟨rfl, HFF.out, HKK.out⟩
end Go.Proofs.Ytihiapjfdgoomaa.A
namespace Go.Proofs.Ytihiapjfdgoomaa.A
open Go.RowKit Go.Proofs.YtihiapjfdgoomaaW.PrintWords Go.Proofs.YtihiapjfdgoomaaW.PrintLast Go.Proofs.YtihiapjfdgoomaaW.PrintMore
open Go.Proofs.Ytihiapjfdgoomaa.P
set_option linter.unusedVariables false
set_option linter.unusedSimpArgs false

section
variable {w0 w W W1 : World} {g : Nat} {s s1 : St} {L : List (Nat × Nat × Array Value)}
theorem Fr.drew (h : Fr w0 w W g s L) : Fr w0 w W.drew g s L := ⟨h.1, below_drew h.2.1, h.2.2.1, h.2.2.2⟩
/-- A row of the call's own has been written, which is none of the blocks. -/
theorem Fr.grown {α : Type} {d : Kd α} {e base : Nat} {ok : Nat → Prop} {v : Value} {xs : List α} (h : Fr w0 w W g s L) (hR : d.R e W base ok v xs) (hbase : w.heap.size ≤ base) (hg : W.grownBy W1 v.ownBlock) (hB : Below w0.heap.size w0 W1)
    (h70 : e ≠ 70) (hT : ∀ x ∈ L, e ≠ x.2.1) : Fr w0 w W1 g s L := by
  obtain ⟨⟨A, c, hb, hgg, hT0⟩, _, hK, hL⟩ := h
  refine ⟨⟨A, c, blk_grown hb hg (Kd.R_ne hR hb h70), hgg, hT0⟩, hB, KeepBut.trans hK (KeepBut.of_grown hg g) ?_, fun x hx => ?_⟩
  · rcases Kd.R_base2 hR with h1 | ⟨k, h1, h2⟩
    · exact .inl h1
    · exact .inr ⟨k, h1, Nat.le_trans hbase h2⟩
  · obtain ⟨h1, h2, h3, h4⟩ := hL x hx
    exact ⟨blk_grown h1 hg (Kd.R_ne hR h1 (hT x hx)), h2, h3, h4⟩
end

theorem many_s (least : Int) (hl : 1 ≤ least) (s : St) {w0 w W : World} {g : Nat} {L : List (Nat × Nat × Array Value)} (h : Fr w0 w W g s L) :
    Calls Try.prog 31 #[.pointer (some ⟨g, 0, none⟩), .int .i64 least] W fun e W' => e = .returned (.int .i64 (mnyR least s.1 s.2).1) ∧ Fr w0 w W' g (mnyR least s.1 s.2).2 L :=
  (many_calls g least hl s.1 s.2 w0 W h.rd h.bel).mono fun _ _ ⟨h1, h2, h3, h4⟩ => ⟨h1, h.call h2 h3 h4⟩

theorem tk_len (n : Int) (l : List Int) (b : Bool) : (tk n l b).2.1.length ≤ l.length := by
  unfold tk; split <;> simp
theorem ns_len (s : St) : (ns s).1.length ≤ s.1.length := tk_len _ _ _
theorem ts_len (s : St) : (ts s).1.length ≤ s.1.length := Nat.le_trans (tk_len _ _ _) (tk_len _ _ _)
theorem bs_len (s : St) : (bs s).1.length ≤ s.1.length := by
  unfold bs truR; split <;> exact tk_len _ _ _
theorem mny_len (least : Int) (s : St) : (mnyR least s.1 s.2).2.1.length ≤ s.1.length := by
  unfold mnyR; split <;> exact tk_len _ _ _
theorem bxS_len (s : St) : (bxS s).1.length ≤ s.1.length := by
  unfold bxS bxS3
  repeat (first | exact Nat.le_trans (ns_len _) (by repeat (first | exact Nat.le_refl _ | exact ns_len _ | exact ts_len _ | refine Nat.le_trans (ns_len _) ?_ | refine Nat.le_trans (ts_len _) ?_)))
theorem mny_range (least : Int) (hl : 1 ≤ least) (s : St) : 0 ≤ (mnyR least s.1 s.2).1 ∧ (mnyR least s.1 s.2).1 ≤ ((mnyR least s.1 s.2).2.1.length : Int) / least := by
  unfold mnyR
  split
  · exact ⟨Int.le_refl _, Int.ediv_nonneg (by omega) (by omega)⟩
  · rename_i h
    exact ⟨by omega, by omega⟩

/-- Boxes, one by one. -/
def bxsR : Nat → St → List S50 × St
  | 0, s => ([], s)
  | n + 1, s => if s.2 = true then ([], s) else (bxV s :: (bxsR n (bxS s)).1, (bxsR n (bxS s)).2)
def rwS (s : St) : St := bs (bs (ns s))
def rwM (s : St) : Int × St := mnyR 72 (rwS s).1 (rwS s).2
def rwV (s : St) : S48 := ⟨nv s, bv (ns s), bv (bs (ns s)), (bxsR (rwM s).1.toNat (rwM s).2).1⟩
def rwE (s : St) : St := (bxsR (rwM s).1.toNat (rwM s).2).2

theorem k50_cells (b : S50) (w : World) (base : Nat) (ok : Nat → Prop) : k50.M w base ok b [.int .i64 b.f0, .int .i64 b.f1, .string b.f2, .int .i64 b.f3, .int .i64 b.f4, .int .i64 b.f5, .int .i64 b.f6, .int .i64 b.f7, .int .i64 b.f8, .int .i64 b.f9] := k50_mkM w base ok b
theorem R_keepG {α : Type} {d : Kd α} {e : Nat} {w w1 : World} {base : Nat} {v : Value} {xs : List α} {g : Nat} (h : d.R e w base (fun k => base ≤ k) v xs) (hk : KeepBut w w1 g none) (hg : g < base) : d.R e w1 base (fun k => base ≤ k) v xs :=
  Kd.R_keep h hk (fun k hk => by omega)
theorem info50 : (Try.prog.info? 50).map (fun i => (i.zero, i.size, i.bytes)) = some (some (bxVal z50), 10, 88) := by kernel_rfl

set_option maxHeartbeats 1000000 in
set_option maxRecDepth 100000 in
theorem row_s (s : St) {w0 w W : World} {g : Nat} {L : List (Nat × Nat × Array Value)} (h : Fr w0 w W g s L) (hlen : s.1.length ≤ 1099511627776) :
    Calls Try.prog 42 #[.pointer (some ⟨g, 0, none⟩)] W fun e W' => ∃ v, e = .returned (.agg #[.int .i64 (rwV s).f0, .bool (rwV s).f1, .bool (rwV s).f2, v]) ∧
      k50.R 50 W' W.heap.size (fun k => W.heap.size ≤ k) v (rwV s).f3 ∧ Fr w0 w W' g (rwE s) L ∧ KeepBut W W' g none := by
  have HF := Aside0.mk h
  have H0 := Aside0.mk (Fr.start h.rd h.bel)
  have hgW := Aside0.mk h.rd.lt
  clear h
  go_enter Try.func42, Try.ntmps42
  go_wp2_with fail
  refine (num_s s (Fr.alloc H0.out _ _)).mono ?_
  rintro e W1 ⟨rfl, h⟩
  have H1 := Aside0.mk h
  clear h
  go_wp2_with fail
  refine (truth_s _ H1.out).mono ?_
  rintro e W2 ⟨rfl, h⟩
  have H2 := Aside0.mk h
  clear h H1
  go_wp2_with fail
  refine (truth_s _ H2.out).mono ?_
  rintro e W3 ⟨rfl, h⟩
  have H3 := Aside0.mk h
  clear h H2
  go_wp2_with fail
  refine (many_s 72 (by omega) _ (Fr.alloc H3.out _ _)).mono ?_
  rintro e W4 ⟨rfl, h⟩
  have hlt := Aside0.mk (H3.out.lt (List.mem_singleton.2 rfl))
  have hm := mny_range 72 (by omega) (bs (bs (ns s)))
  have hm2 := mny_len 72 (bs (bs (ns s)))
  have hm3 := bs_len (bs (ns s))
  have hm4 := bs_len (ns s)
  have hm5 := ns_len s
  obtain ⟨n0, hn0⟩ := Int.eq_ofNat_of_zero_le hm.1
  have hn1 : n0 ≤ 15270994830 := by omega
  have HN := Aside0.mk hn0
  have hn0' : (mnyR 72 (bs (bs (ns s))).1 (bs (bs (ns s))).2).1 = (n0 : Int) := hn0
  rw [hn0']
  have H4 := Aside0.mk h
  clear h H3 hm hm2 hm3 hm4 hm5 hn0 hn0'
  go_wp2_with fail
  go_loopg [4] n0 (fun kq v4 wr => ∃ (xs : List S50) (s' : St) (vB : Value), kq ≤ n0 ∧ xs.length + kq = n0 ∧ v4 = .int .i64 (kq : Int) ∧
    Aside0 (Fr w0 W wr g s' [(W3.heap.size, 48, #[.int .i64 (nv s), .bool (bv (ns s)), .bool (bv (bs (ns s))), vB]), (W.heap.size, 48, #[.int .i64 0, .bool false, .bool false, .slice none 0 0])]) ∧
    Aside0 (k50.R 50 wr W.heap.size (fun k => W.heap.size ≤ k) vB xs) ∧ Aside0 (xs ++ (bxsR kq s').1 = (rwV s).f3 ∧ (bxsR kq s').2 = rwE s))
  case atStart => exact ⟨[], _, .slice none 0 0, Nat.le_refl _, by simp, rfl, H4, ⟨Kd.R_nil _ _ _ _ _⟩, ⟨by simp only [rwV, rwM, rwS, HN.out, List.nil_append, Int.toNat_natCast], by simp only [rwE, rwM, rwS, HN.out, Int.toNat_natCast]⟩⟩
  case round =>
    clear H4
    obtain ⟨xs, s', vB, hk, hx, rfl, HFr, HR, HE⟩ := hrel
    have hb3 := HFr.out.blk (List.mem_cons_self)
    have hc := blk_cell hb3
    have hf := blk_frozen hb3
    obtain ⟨A, c, hb, hg0, hT⟩ := HFr.out.rd
    have hcg := blk_cell hb
    clear hb3 hb hT
    cases gk with
    | zero =>
      obtain ⟨Av, cv, rfl⟩ := Kd.R_slice HR.out
      have EQ := Aside0.mk (show xs = (rwV s).f3 ∧ s' = rwE s from by have h := HE.out; simpa [bxsR] using h)
      clear HE
      have hb0 := HFr.out.blk (List.mem_cons_of_mem _ (List.mem_singleton.2 rfl))
      have hc0 := blk_cell hb0
      have hf0 := blk_frozen hb0
      have H12 := Aside0.mk (Fr.set _ _ _ (Fr.set _ _ _ (Fr.set _ _ _ (Fr.set _ _ _ (HFr.out.sub (L' := [(W.heap.size, 48, #[Value.int IntKind.i64 0, Value.bool false, Value.bool false, Value.slice none 0 0])]) (fun x hx => List.mem_cons_of_mem _ hx)) (fun x hx => absurd hx (by simp)) 0 (.int .i64 (nv s))) (fun x hx => absurd hx (by simp)) 1 (.bool (bv (ns s)))) (fun x hx => absurd hx (by simp)) 2 (.bool (bv (bs (ns s))))) (fun x hx => absurd hx (by simp)) 3 (.slice Av xs.length cv))
      have R12 := Aside0.mk (Kd.R_far (p := ⟨W.heap.size, 3, none⟩) (Kd.R_far (p := ⟨W.heap.size, 2, none⟩) (Kd.R_far (p := ⟨W.heap.size, 1, none⟩) (Kd.R_far (p := ⟨W.heap.size, 0, none⟩) (Kd.R_types HR.out (HFr.out.blk (List.mem_cons_of_mem _ (List.mem_singleton.2 rfl))) (by decide)) (fun _ hk => hk.2) (.int .i64 (nv s))) (fun _ hk => hk.2) (.bool (bv (ns s)))) (fun _ hk => hk.2) (.bool (bv (bs (ns s))))) (fun _ hk => hk.2) (.slice Av xs.length cv))
      clear hb0
      go_wp2
      obtain ⟨W12, hW⟩ : ∃ X, ((((wr.setCell ⟨W.heap.size, 0, none⟩ (.int .i64 (nv s))).setCell ⟨W.heap.size, 1, none⟩ (.bool (bv (ns s)))).setCell ⟨W.heap.size, 2, none⟩ (.bool (bv (bs (ns s))))).setCell ⟨W.heap.size, 3, none⟩ (.slice Av xs.length cv)) = X := ⟨_, rfl⟩
      have H13 : Fr w0 W W12 g s' [(W.heap.size, 48, #[.int .i64 (nv s), .bool (bv (ns s)), .bool (bv (bs (ns s))), .slice Av xs.length cv])] := by
        rw [← hW]; have h := H12.out; simp only [List.setIfInBounds_toArray, List.set_cons_zero, List.set_cons_succ] at h; exact h
      have R13 : k50.R 50 W12 W.heap.size (fun k => W.heap.size ≤ k) (.slice Av xs.length cv) xs := by
        rw [← hW]; exact Kd.R_mono R12.out (fun _ hk => hk.1)
      rw [hW]
      clear hc hf hc0 hf0 H12 hW hcg
      have hc := blk_cell (H13.blk (List.mem_cons_self))
      have HFF := Aside0.mk (HF.out.call H13.1 H13.2.1 H13.2.2.1)
      have RR := Aside0.mk R13
      have HKK := Aside0.mk H13.2.2.1
      clear H13 HF H0 HFr HR R13 R12
      refine bodyPost_ret (v := .agg #[.int .i64 (nv s), .bool (bv (ns s)), .bool (bv (bs (ns s))), .slice Av xs.length cv]) (by simp [results, Try.results42, go_sem, hc]) rfl ⟨_, rfl, ?_, ?_, HKK.out⟩
      · rw [← EQ.out.1]; exact RR.out
      · rw [← EQ.out.2]; exact HFF.out
    | succ k =>
      obtain ⟨Av, cv, rfl⟩ := Kd.R_slice HR.out
      cases hs2 : s'.2 with
      | true =>
        rw [hs2] at hcg
        have EQ := Aside0.mk (show xs = (rwV s).f3 ∧ s' = rwE s from by have h := HE.out; simpa [bxsR, hs2] using h)
        clear HE hs2
        have hb0 := HFr.out.blk (List.mem_cons_of_mem _ (List.mem_singleton.2 rfl))
        have hc0 := blk_cell hb0
        have hf0 := blk_frozen hb0
        have H12 := Aside0.mk (Fr.set _ _ _ (Fr.set _ _ _ (Fr.set _ _ _ (Fr.set _ _ _ (HFr.out.sub (L' := [(W.heap.size, 48, #[Value.int IntKind.i64 0, Value.bool false, Value.bool false, Value.slice none 0 0])]) (fun x hx => List.mem_cons_of_mem _ hx)) (fun x hx => absurd hx (by simp)) 0 (.int .i64 (nv s))) (fun x hx => absurd hx (by simp)) 1 (.bool (bv (ns s)))) (fun x hx => absurd hx (by simp)) 2 (.bool (bv (bs (ns s))))) (fun x hx => absurd hx (by simp)) 3 (.slice Av xs.length cv))
        have R12 := Aside0.mk (Kd.R_far (p := ⟨W.heap.size, 3, none⟩) (Kd.R_far (p := ⟨W.heap.size, 2, none⟩) (Kd.R_far (p := ⟨W.heap.size, 1, none⟩) (Kd.R_far (p := ⟨W.heap.size, 0, none⟩) (Kd.R_types HR.out (HFr.out.blk (List.mem_cons_of_mem _ (List.mem_singleton.2 rfl))) (by decide)) (fun _ hk => hk.2) (.int .i64 (nv s))) (fun _ hk => hk.2) (.bool (bv (ns s)))) (fun _ hk => hk.2) (.bool (bv (bs (ns s))))) (fun _ hk => hk.2) (.slice Av xs.length cv))
        clear hb0
        go_wp2
        obtain ⟨W12, hW⟩ : ∃ X, ((((wr.setCell ⟨W.heap.size, 0, none⟩ (.int .i64 (nv s))).setCell ⟨W.heap.size, 1, none⟩ (.bool (bv (ns s)))).setCell ⟨W.heap.size, 2, none⟩ (.bool (bv (bs (ns s))))).setCell ⟨W.heap.size, 3, none⟩ (.slice Av xs.length cv)) = X := ⟨_, rfl⟩
        have H13 : Fr w0 W W12 g s' [(W.heap.size, 48, #[.int .i64 (nv s), .bool (bv (ns s)), .bool (bv (bs (ns s))), .slice Av xs.length cv])] := by
          rw [← hW]; have h := H12.out; simp only [List.setIfInBounds_toArray, List.set_cons_zero, List.set_cons_succ] at h; exact h
        have R13 : k50.R 50 W12 W.heap.size (fun k => W.heap.size ≤ k) (.slice Av xs.length cv) xs := by
          rw [← hW]; exact Kd.R_mono R12.out (fun _ hk => hk.1)
        rw [hW]
        clear hc hf hc0 hf0 H12 hW hcg
        have hc := blk_cell (H13.blk (List.mem_cons_self))
        have HFF := Aside0.mk (HF.out.call H13.1 H13.2.1 H13.2.2.1)
        have RR := Aside0.mk R13
        have HKK := Aside0.mk H13.2.2.1
        clear H13 HF H0 HFr HR R13 R12
        refine bodyPost_ret (v := .agg #[.int .i64 (nv s), .bool (bv (ns s)), .bool (bv (bs (ns s))), .slice Av xs.length cv]) (by simp [results, Try.results42, go_sem, hc]) rfl ⟨_, rfl, ?_, ?_, HKK.out⟩
        · rw [← EQ.out.1]; exact RR.out
        · rw [← EQ.out.2]; exact HFF.out
      | false =>
        rw [hs2] at hcg
        have EQ := Aside0.mk (show xs ++ (bxV s' :: (bxsR k (bxS s')).1) = (rwV s).f3 ∧ (bxsR k (bxS s')).2 = rwE s from by have h := HE.out; simpa [bxsR, hs2] using h)
        clear HE hs2
        have HFd := Aside0.mk HFr.out.drew
        have HRd := Aside0.mk (Kd.R_drew HR.out)
        have hcd : ∀ (i : Nat), wr.drew.cell? ⟨W3.heap.size, i, none⟩ = #[.int .i64 (nv s), .bool (bv (ns s)), .bool (bv (bs (ns s))), .slice Av xs.length cv][i]? := hc
        go_wp2_with fail
        clear hcg hf hc
        go_region_law (first
          | (refine goes_ (N := some 28) Try.func47 (by kernel_rfl) rfl #[.pointer (some ⟨g, 0, none⟩)] (by rfl) rfl rfl (by simp only [List.map_toArray, List.map_cons, List.map_nil]; rfl) ?_; refine (box_s s' HFd.out).mono ?_; rintro e w5 ⟨rfl, h5, k5⟩; refine ⟨_, rfl, ?_⟩; dsimp only [bxVal]; have H5 := Aside0.mk h5; have R5 := Aside0.mk (R_keepG HRd.out k5 hgW.out); have hc5 := blk_cell (h5.blk (List.mem_cons_self)); have hc5a := fun (o : Obj) (i : Nat) => (World.cell?_alloc_lt w5 o ⟨W3.heap.size, i, none⟩ (H5.out.lt (List.mem_cons_self))).trans (hc5 i); clear h5 k5)
          | (refine Kd.R_append_step k50 (w0 := w5) W.heap.size rfl (.tmp 26) (.tmp 29) 46 50 (bxVal z50) 88 rfl Try.underlying46 info50 rfl (by decide) (by decide) (.slice Av xs.length cv) xs (bxV s') [.int .i64 (bxV s').f0, .int .i64 (bxV s').f1, .string (bxV s').f2, .int .i64 (bxV s').f3, .int .i64 (bxV s').f4, .int .i64 (bxV s').f5, .int .i64 (bxV s').f6, .int .i64 (bxV s').f7, .int .i64 (bxV s').f8, .int .i64 (bxV s').f9] (fun k => W.heap.size ≤ k) (fun _ => False) rfl rfl (k50_cells _ _ _ _) (fun k hk => hk.elim) (fun k hk => Nat.le_trans H5.out.keep.1 hk) R5.out (Below.refl _ _) H5.out.keep.1 (by omega) ?_; intro v1 w6 HR6 HB6 HG6 HD6; obtain ⟨A6, c6, hv6⟩ := Kd.R_slice HR6; subst hv6; have H6 := Aside0.mk (Fr.grown H5.out R5.out (Nat.le_refl _) HG6 (H5.out.bel.trans (HB6.mono H0.out.bel.size)) (by decide) (by intro x hx; simp only [List.mem_cons, List.not_mem_nil, or_false] at hx; rcases hx with rfl | rfl <;> exact (by decide : (50 : Nat) ≠ 48))); have R6 := Aside0.mk HR6; have hc6 := blk_cell (H6.out.blk (List.mem_cons_self)); have hf6 := blk_frozen (H6.out.blk (List.mem_cons_self)); clear HR6 HB6 HG6 HD6))
        all_goals
          have H7 := Aside0.mk (Fr.set _ _ _ H6.out (by intro x hx; rw [List.mem_singleton.1 hx]; have := hlt.out; simp only; omega) 3 (.slice A6 (xs ++ [bxV s']).length c6))
          have R7 := Aside0.mk (Kd.R_set R6.out (H6.out.blk (List.mem_cons_self)) (by decide) 3 (.slice A6 (xs ++ [bxV s']).length c6))
          simp only [List.length_append, List.length_cons, List.length_nil, Nat.zero_add] at H7 R7
          go_wp2_with fail
          go_roundg k
          case measure => omega
          case rel => exact ⟨xs ++ [bxV s'], bxS s', _, by omega, by simp; omega, by go_num, H7, ⟨by simpa using R7.out⟩, ⟨by rw [List.append_assoc]; exact EQ.out.1, EQ.out.2⟩⟩
end Go.Proofs.Ytihiapjfdgoomaa.A
namespace Go.Proofs.Ytihiapjfdgoomaa.A
open Go.RowKit Go.Proofs.YtihiapjfdgoomaaW.PrintWords Go.Proofs.YtihiapjfdgoomaaW.PrintLast Go.Proofs.YtihiapjfdgoomaaW.PrintMore
open Go.Proofs.Ytihiapjfdgoomaa.P
set_option linter.unusedVariables false
set_option linter.unusedSimpArgs false

theorem bxsR_len : ∀ (n : Nat) (s : St), (bxsR n s).2.1.length ≤ s.1.length
  | 0, s => Nat.le_refl _
  | n + 1, s => by
    unfold bxsR
    split
    · exact Nat.le_refl _
    · exact Nat.le_trans (bxsR_len n _) (bxS_len s)
theorem rwE_len (s : St) : (rwE s).1.length ≤ s.1.length := by
  unfold rwE rwM rwS
  exact Nat.le_trans (bxsR_len _ _) (Nat.le_trans (mny_len _ _) (Nat.le_trans (bs_len _) (Nat.le_trans (bs_len _) (ns_len _))))
/-- Rows, one by one. -/
def rwsR : Nat → St → List S48 × St
  | 0, s => ([], s)
  | n + 1, s => if s.2 = true then ([], s) else (rwV s :: (rwsR n (rwE s)).1, (rwsR n (rwE s)).2)
def pgS (s : St) : St := bs (ns (ns s))
def pgM (s : St) : Int × St := mnyR 18 (pgS s).1 (pgS s).2
def pgV (s : St) : S45 := ⟨nv s, nv (ns s), bv (ns (ns s)), (rwsR (pgM s).1.toNat (pgM s).2).1⟩
def pgE (s : St) : St := (rwsR (pgM s).1.toNat (pgM s).2).2
theorem rwsR_len : ∀ (n : Nat) (s : St), (rwsR n s).2.1.length ≤ s.1.length
  | 0, s => Nat.le_refl _
  | n + 1, s => by
    unfold rwsR
    split
    · exact Nat.le_refl _
    · exact Nat.le_trans (rwsR_len n _) (rwE_len s)
theorem pgE_len (s : St) : (pgE s).1.length ≤ s.1.length := by
  unfold pgE pgM pgS
  exact Nat.le_trans (rwsR_len _ _) (Nat.le_trans (mny_len _ _) (Nat.le_trans (bs_len _) (Nat.le_trans (ns_len _) (ns_len _))))

theorem infoA48 : (Try.prog.info? 48).map (fun i => (i.zero, i.size, i.bytes)) = some (some (.agg #[(.int .i64 0), (.bool false), (.bool false), (.slice none 0 0)]), 4, 40) := by kernel_rfl
set_option maxHeartbeats 1000000 in
set_option maxRecDepth 100000 in
theorem page_s (s : St) {w0 w W : World} {g : Nat} {L : List (Nat × Nat × Array Value)} (h : Fr w0 w W g s L) (hlen : s.1.length ≤ 1099511627776) :
    Calls Try.prog 32 #[.pointer (some ⟨g, 0, none⟩)] W fun e W' => ∃ v, e = .returned (.agg #[.int .i64 (pgV s).f0, .int .i64 (pgV s).f1, .bool (pgV s).f2, v]) ∧
      Kd.S k48 48 W' W.heap.size (fun k => W.heap.size ≤ k) v (pgV s).f3 ∧ Fr w0 w W' g (pgE s) L ∧ KeepBut W W' g none := by
  have HF := Aside0.mk h
  have H0 := Aside0.mk (Fr.start h.rd h.bel)
  have hgW := Aside0.mk h.rd.lt
  clear h
  go_enter Try.func32, Try.ntmps32
  go_wp2_with fail
  refine (num_s s (Fr.alloc H0.out _ _)).mono ?_
  rintro e W1 ⟨rfl, h⟩
  have H1 := Aside0.mk h
  clear h
  go_wp2_with fail
  refine (num_s _ H1.out).mono ?_
  rintro e W2 ⟨rfl, h⟩
  have H2 := Aside0.mk h
  clear h H1
  go_wp2_with fail
  refine (truth_s _ H2.out).mono ?_
  rintro e W3 ⟨rfl, h⟩
  have H3 := Aside0.mk h
  clear h H2
  go_wp2_with fail
  refine (many_s 18 (by omega) _ (Fr.alloc H3.out _ _)).mono ?_
  rintro e W4 ⟨rfl, h⟩
  have hlt := Aside0.mk (H3.out.lt (List.mem_singleton.2 rfl))
  have hm := mny_range 18 (by omega) (bs (ns (ns s)))
  have hm2 := mny_len 18 (bs (ns (ns s)))
  have hm3 := bs_len (ns (ns s))
  have hm4 := ns_len (ns s)
  have hm5 := ns_len s
  obtain ⟨n0, hn0⟩ := Int.eq_ofNat_of_zero_le hm.1
  have hn1 : n0 ≤ 61083979320 := by omega
  have HN := Aside0.mk hn0
  have hn0' : (mnyR 18 (bs (ns (ns s))).1 (bs (ns (ns s))).2).1 = (n0 : Int) := hn0
  rw [hn0']
  have H4 := Aside0.mk h
  have HLL := Aside0.mk (show (mnyR 18 (bs (ns (ns s))).1 (bs (ns (ns s))).2).2.1.length ≤ 1099511627776 by omega)
  clear h H3 hm hm2 hm3 hm4 hm5 hn0 hn0'
  go_wp2_with fail
  go_loopg [4] n0 (fun kq v4 wr => ∃ (xs : List S48) (s' : St) (vB : Value), s'.1.length ≤ 1099511627776 ∧ kq ≤ n0 ∧ xs.length + kq = n0 ∧ v4 = .int .i64 (kq : Int) ∧
    Aside0 (Fr w0 W wr g s' [(W3.heap.size, 45, #[.int .i64 (nv s), .int .i64 (nv (ns s)), .bool (bv (ns (ns s))), vB]), (W.heap.size, 45, #[.int .i64 0, .int .i64 0, .bool false, .slice none 0 0])]) ∧
    Aside0 (Kd.S k48 48 wr W.heap.size (fun k => W.heap.size ≤ k) vB xs) ∧ Aside0 (xs ++ (rwsR kq s').1 = (pgV s).f3 ∧ (rwsR kq s').2 = pgE s))
  case atStart => exact ⟨[], _, .slice none 0 0, HLL.out, Nat.le_refl _, by simp, rfl, H4, ⟨Kd.S_nil _ _ _ _ _⟩, ⟨by simp only [pgV, pgM, pgS, HN.out, List.nil_append, Int.toNat_natCast], by simp only [pgE, pgM, pgS, HN.out, Int.toNat_natCast]⟩⟩
  case round =>
    clear H4
    obtain ⟨xs, s', vB, hsl, hk, hx, rfl, HFr, HR, HE⟩ := hrel
    have hb3 := HFr.out.blk (List.mem_cons_self)
    have hc := blk_cell hb3
    have hf := blk_frozen hb3
    obtain ⟨A, c, hb, hg0, hT⟩ := HFr.out.rd
    have hcg := blk_cell hb
    clear hb3 hb hT
    cases gk with
    | zero =>
      obtain ⟨Av, cv, rfl⟩ := Kd.S_slice HR.out
      have EQ := Aside0.mk (show xs = (pgV s).f3 ∧ s' = pgE s from by have h := HE.out; simpa [rwsR] using h)
      clear HE
      have hb0 := HFr.out.blk (List.mem_cons_of_mem _ (List.mem_singleton.2 rfl))
      have hc0 := blk_cell hb0
      have hf0 := blk_frozen hb0
      have H12 := Aside0.mk (Fr.set _ _ _ (Fr.set _ _ _ (Fr.set _ _ _ (Fr.set _ _ _ (HFr.out.sub (L' := [(W.heap.size, 45, #[Value.int IntKind.i64 0, Value.int IntKind.i64 0, Value.bool false, Value.slice none 0 0])]) (fun x hx => List.mem_cons_of_mem _ hx)) (fun x hx => absurd hx (by simp)) 0 (.int .i64 (nv s))) (fun x hx => absurd hx (by simp)) 1 (.int .i64 (nv (ns s)))) (fun x hx => absurd hx (by simp)) 2 (.bool (bv (ns (ns s))))) (fun x hx => absurd hx (by simp)) 3 (.slice Av xs.length cv))
      have R12 := Aside0.mk (Kd.S_far (p := ⟨W.heap.size, 3, none⟩) (Kd.S_far (p := ⟨W.heap.size, 2, none⟩) (Kd.S_far (p := ⟨W.heap.size, 1, none⟩) (Kd.S_far (p := ⟨W.heap.size, 0, none⟩) (Kd.S_types HR.out (HFr.out.blk (List.mem_cons_of_mem _ (List.mem_singleton.2 rfl))) (by decide)) (fun _ hk => hk.2) (.int .i64 (nv s))) (fun _ hk => hk.2) (.int .i64 (nv (ns s)))) (fun _ hk => hk.2) (.bool (bv (ns (ns s))))) (fun _ hk => hk.2) (.slice Av xs.length cv))
      clear hb0
      go_wp2
      obtain ⟨W12, hW⟩ : ∃ X, ((((wr.setCell ⟨W.heap.size, 0, none⟩ (.int .i64 (nv s))).setCell ⟨W.heap.size, 1, none⟩ (.int .i64 (nv (ns s)))).setCell ⟨W.heap.size, 2, none⟩ (.bool (bv (ns (ns s))))).setCell ⟨W.heap.size, 3, none⟩ (.slice Av xs.length cv)) = X := ⟨_, rfl⟩
      have H13 : Fr w0 W W12 g s' [(W.heap.size, 45, #[.int .i64 (nv s), .int .i64 (nv (ns s)), .bool (bv (ns (ns s))), .slice Av xs.length cv])] := by
        rw [← hW]; have h := H12.out; simp only [List.setIfInBounds_toArray, List.set_cons_zero, List.set_cons_succ] at h; exact h
      have R13 : Kd.S k48 48 W12 W.heap.size (fun k => W.heap.size ≤ k) (.slice Av xs.length cv) xs := by
        rw [← hW]; exact Kd.S_mono R12.out (fun _ hk => hk.1)
      rw [hW]
      clear hc hf hc0 hf0 H12 hW hcg
      have hc := blk_cell (H13.blk (List.mem_cons_self))
      have HFF := Aside0.mk (HF.out.call H13.1 H13.2.1 H13.2.2.1)
      have RR := Aside0.mk R13
      have HKK := Aside0.mk H13.2.2.1
      clear H13 HF H0 HFr HR R13 R12
      refine bodyPost_ret (v := .agg #[.int .i64 (nv s), .int .i64 (nv (ns s)), .bool (bv (ns (ns s))), .slice Av xs.length cv]) (by simp [results, Try.results32, go_sem, hc]) rfl ⟨_, rfl, ?_, ?_, HKK.out⟩
      · rw [← EQ.out.1]; exact RR.out
      · rw [← EQ.out.2]; exact HFF.out
    | succ k =>
      obtain ⟨Av, cv, rfl⟩ := Kd.S_slice HR.out
      cases hs2 : s'.2 with
      | true =>
        rw [hs2] at hcg
        have EQ := Aside0.mk (show xs = (pgV s).f3 ∧ s' = pgE s from by have h := HE.out; simpa [rwsR, hs2] using h)
        clear HE hs2
        have hb0 := HFr.out.blk (List.mem_cons_of_mem _ (List.mem_singleton.2 rfl))
        have hc0 := blk_cell hb0
        have hf0 := blk_frozen hb0
        have H12 := Aside0.mk (Fr.set _ _ _ (Fr.set _ _ _ (Fr.set _ _ _ (Fr.set _ _ _ (HFr.out.sub (L' := [(W.heap.size, 45, #[Value.int IntKind.i64 0, Value.int IntKind.i64 0, Value.bool false, Value.slice none 0 0])]) (fun x hx => List.mem_cons_of_mem _ hx)) (fun x hx => absurd hx (by simp)) 0 (.int .i64 (nv s))) (fun x hx => absurd hx (by simp)) 1 (.int .i64 (nv (ns s)))) (fun x hx => absurd hx (by simp)) 2 (.bool (bv (ns (ns s))))) (fun x hx => absurd hx (by simp)) 3 (.slice Av xs.length cv))
        have R12 := Aside0.mk (Kd.S_far (p := ⟨W.heap.size, 3, none⟩) (Kd.S_far (p := ⟨W.heap.size, 2, none⟩) (Kd.S_far (p := ⟨W.heap.size, 1, none⟩) (Kd.S_far (p := ⟨W.heap.size, 0, none⟩) (Kd.S_types HR.out (HFr.out.blk (List.mem_cons_of_mem _ (List.mem_singleton.2 rfl))) (by decide)) (fun _ hk => hk.2) (.int .i64 (nv s))) (fun _ hk => hk.2) (.int .i64 (nv (ns s)))) (fun _ hk => hk.2) (.bool (bv (ns (ns s))))) (fun _ hk => hk.2) (.slice Av xs.length cv))
        clear hb0
        go_wp2
        obtain ⟨W12, hW⟩ : ∃ X, ((((wr.setCell ⟨W.heap.size, 0, none⟩ (.int .i64 (nv s))).setCell ⟨W.heap.size, 1, none⟩ (.int .i64 (nv (ns s)))).setCell ⟨W.heap.size, 2, none⟩ (.bool (bv (ns (ns s))))).setCell ⟨W.heap.size, 3, none⟩ (.slice Av xs.length cv)) = X := ⟨_, rfl⟩
        have H13 : Fr w0 W W12 g s' [(W.heap.size, 45, #[.int .i64 (nv s), .int .i64 (nv (ns s)), .bool (bv (ns (ns s))), .slice Av xs.length cv])] := by
          rw [← hW]; have h := H12.out; simp only [List.setIfInBounds_toArray, List.set_cons_zero, List.set_cons_succ] at h; exact h
        have R13 : Kd.S k48 48 W12 W.heap.size (fun k => W.heap.size ≤ k) (.slice Av xs.length cv) xs := by
          rw [← hW]; exact Kd.S_mono R12.out (fun _ hk => hk.1)
        rw [hW]
        clear hc hf hc0 hf0 H12 hW hcg
        have hc := blk_cell (H13.blk (List.mem_cons_self))
        have HFF := Aside0.mk (HF.out.call H13.1 H13.2.1 H13.2.2.1)
        have RR := Aside0.mk R13
        have HKK := Aside0.mk H13.2.2.1
        clear H13 HF H0 HFr HR R13 R12
        refine bodyPost_ret (v := .agg #[.int .i64 (nv s), .int .i64 (nv (ns s)), .bool (bv (ns (ns s))), .slice Av xs.length cv]) (by simp [results, Try.results32, go_sem, hc]) rfl ⟨_, rfl, ?_, ?_, HKK.out⟩
        · rw [← EQ.out.1]; exact RR.out
        · rw [← EQ.out.2]; exact HFF.out
      | false =>
        rw [hs2] at hcg
        have EQ := Aside0.mk (show xs ++ (rwV s' :: (rwsR k (rwE s')).1) = (pgV s).f3 ∧ (rwsR k (rwE s')).2 = pgE s from by have h := HE.out; simpa [rwsR, hs2] using h)
        clear HE hs2
        have HFd := Aside0.mk HFr.out.drew
        have HRd := Aside0.mk (Kd.S_drew HR.out)
        have hcd : ∀ (i : Nat), wr.drew.cell? ⟨W3.heap.size, i, none⟩ = #[.int .i64 (nv s), .int .i64 (nv (ns s)), .bool (bv (ns (ns s))), .slice Av xs.length cv][i]? := hc
        go_wp2_with fail
        clear hcg hf hc
        have hWwr := Aside0.mk HFr.out.keep.1
        have hvb := Aside0.mk (fun k (hk : (Value.slice Av xs.length cv).ownBlock = some k) => ((Kd.R_bound (Kd.S_R HR.out)).1 k hk).2.2.1)
        have HRe := Aside0.mk (Kd.S_mono HRd.out (ok' := fun k => W.heap.size ≤ k ∧ k ≠ g) (fun k hk => ⟨hk, by have := hgW.out; omega⟩))
        go_region_law (first
          | (refine goes_ (N := some 28) Try.func42 (by kernel_rfl) rfl #[.pointer (some ⟨g, 0, none⟩)] (by rfl) rfl rfl (by simp only [List.map_toArray, List.map_cons, List.map_nil]; rfl) ?_; refine (row_s s' HFd.out hsl).mono ?_; rintro e w5 ⟨v5, rfl, r5, h5, k5⟩; refine ⟨_, rfl, ?_⟩; obtain ⟨A5, c5, hv5⟩ := Kd.R_slice r5; subst hv5; have H5 := Aside0.mk h5; have R5 := Aside0.mk (Kd.S_oldK HRe.out k5); have RR5 := Aside0.mk r5; have hsz5 := Aside0.mk k5.1; have hc5 := blk_cell (h5.blk (List.mem_cons_self)); have hc5a := fun (o : Obj) (i : Nat) => (World.cell?_alloc_lt w5 o ⟨W3.heap.size, i, none⟩ (H5.out.lt (List.mem_cons_self))).trans (hc5 i); clear h5 k5 r5)
          | (refine Kd.S_append_step k48 (w0 := w5) W.heap.size rfl (.tmp 26) (.tmp 29) 43 48 (.agg #[(.int .i64 0), (.bool false), (.bool false), (.slice none 0 0)]) 40 rfl Try.underlying43 infoA48 rfl (by decide) (by decide) (.slice Av xs.length cv) xs (rwV s') [.int .i64 (rwV s').f0, .bool (rwV s').f1, .bool (rwV s').f2, .slice A5 (rwV s').f3.length c5] (fun k => W.heap.size ≤ k) (fun k => wr.heap.size ≤ k) rfl rfl (k48_mkM _ _ _ _ (Kd.R_lower RR5.out hWwr.out)) (fun k hk => ⟨Nat.le_trans hWwr.out hk, fun e => by have := hvb.out k e.symm; omega⟩) (fun k hk => Nat.le_trans H5.out.keep.1 hk) (Kd.S_mono R5.out (fun k hk => ⟨hk.1, fun h2 => Nat.lt_irrefl _ (Nat.lt_of_lt_of_le hk.2 h2)⟩)) (Below.refl _ _) H5.out.keep.1 (by omega) ?_; intro v1 w6 HR6 HB6 HG6 HD6; obtain ⟨A6, c6, hv6⟩ := Kd.S_slice HR6; subst hv6; have H6 := Aside0.mk (Fr.grown H5.out (Kd.S_R R5.out) (Nat.le_refl _) HG6 (H5.out.bel.trans (HB6.mono H0.out.bel.size)) (by decide) (by intro x hx; simp only [List.mem_cons, List.not_mem_nil, or_false] at hx; rcases hx with rfl | rfl <;> exact (by decide : (48 : Nat) ≠ 45))); have R6 := Aside0.mk HR6; have hc6 := blk_cell (H6.out.blk (List.mem_cons_self)); have hf6 := blk_frozen (H6.out.blk (List.mem_cons_self)); clear HR6 HB6 HG6 HD6))
        all_goals
          have HL2 := Aside0.mk (Nat.le_trans (rwE_len s') hsl)
          have H7 := Aside0.mk (Fr.set _ _ _ H6.out (by intro x hx; rw [List.mem_singleton.1 hx]; have := hlt.out; simp only; omega) 3 (.slice A6 (xs ++ [rwV s']).length c6))
          have R7 := Aside0.mk (Kd.S_set R6.out (H6.out.blk (List.mem_cons_self)) (by decide) 3 (.slice A6 (xs ++ [rwV s']).length c6))
          simp only [List.length_append, List.length_cons, List.length_nil, Nat.zero_add] at H7 R7
          go_wp2_with fail
          go_roundg k
          case measure => omega
          case rel => exact ⟨xs ++ [rwV s'], rwE s', _, HL2.out, by omega, by simp; omega, by go_num, H7, ⟨by simpa using R7.out⟩, ⟨by rw [List.append_assoc]; exact EQ.out.1, EQ.out.2⟩⟩
end Go.Proofs.Ytihiapjfdgoomaa.A
namespace Go.Proofs.Ytihiapjfdgoomaa.A
open Go.RowKit Go.Proofs.YtihiapjfdgoomaaW.PrintWords Go.Proofs.YtihiapjfdgoomaaW.PrintLast Go.Proofs.YtihiapjfdgoomaaW.PrintMore
open Go.Proofs.Ytihiapjfdgoomaa.P
set_option linter.unusedVariables false
set_option linter.unusedSimpArgs false

/-- A list whose elements' rows lie apart. -/
def sliceA {α : Type} (e : Nat) (d : Kd α) : Kd (List α) where
  sz := 1
  E := e :: d.E
  K := fun w xs cs => ∃ A c, cs = [.slice A xs.length c] ∧ xs.length ≤ c ∧ d.C w A xs.length xs
  M := fun w base ok xs cs => ∃ v, cs = [v] ∧ Kd.S d e w base ok v xs
  K_len := by
    rintro w x cs ⟨A, c, rfl, _⟩
    rfl
  K_one := by
    rintro w x cs ⟨A, c, rfl, _⟩ u hu
    rw [List.mem_singleton.1 hu]
    rfl
  K_below := by
    rintro w w1 x cs hb ⟨A, c, rfl, hl, hr⟩
    exact ⟨A, c, rfl, hl, Kd.C_below hr hb⟩
  K_of_M := by
    rintro w base ok x cs ⟨v, rfl, h⟩
    obtain ⟨A, c, rfl, hl, hr⟩ := Kd.S_reads h
    exact ⟨A, c, rfl, hl, hr⟩
  M_mono := by
    rintro w base ok ok' x cs hok ⟨v, rfl, h⟩
    exact ⟨v, rfl, Kd.S_mono h hok⟩
  M_bound := by
    rintro w base ok x cs ⟨v, rfl, h⟩
    exact ⟨v, rfl, Kd.S_bound h⟩
  M_move := by
    rintro w w1 base ok x cs hm ⟨v, rfl, h⟩
    exact ⟨v, rfl, Kd.S_move h hm⟩
  M_lower := by
    rintro w base base' ok x cs hb ⟨v, rfl, h⟩
    exact ⟨v, rfl, Kd.S_lower h hb⟩
def k45A : Kd S45 := Kd.iso (Kd.pair (Kd.int .i64) (Kd.pair (Kd.int .i64) (Kd.pair Kd.bool (sliceA 48 k48)))) (fun x : S45 => (x.f0, x.f1, x.f2, x.f3))
theorem k45A_mkM (w : World) (base : Nat) (ok : Nat → Prop) (x : S45) {v3 : Value} (g3 : Kd.S k48 48 w base ok v3 x.f3) : k45A.M w base ok x [.int .i64 x.f0, .int .i64 x.f1, .bool x.f2, v3] :=
  ⟨[.int .i64 x.f0], [.int .i64 x.f1, .bool x.f2, v3], rfl, rfl, ⟨[.int .i64 x.f1], [.bool x.f2, v3], rfl, rfl, ⟨[.bool x.f2], [v3], rfl, rfl, ⟨v3, rfl, g3⟩⟩⟩⟩
theorem k45A_openM {w : World} {base : Nat} {ok : Nat → Prop} {x : S45} {cs : List Value} (h : k45A.M w base ok x cs) : ∃ v3, cs = [.int .i64 x.f0, .int .i64 x.f1, .bool x.f2, v3] ∧ Kd.S k48 48 w base ok v3 x.f3 := by
  obtain ⟨_, _, rfl, rfl, ⟨_, _, rfl, rfl, ⟨_, _, rfl, rfl, ⟨v3, rfl, g3⟩⟩⟩⟩ := h
  exact ⟨v3, rfl, g3⟩
/-- Pages whose rows lie apart are pages. -/
theorem R_of_A {e : Nat} {w : World} {base : Nat} {ok : Nat → Prop} {v : Value} {xs : List S45} (h : Kd.S k45A e w base ok v xs) : k45.R e w base ok v xs := by
  obtain ⟨h0, inner, ho, hr⟩ := Kd.S_R h
  exact ⟨h0, inner, ho, hr.imp_ (fun x cs hx => by
    obtain ⟨v3, rfl, g3⟩ := k45A_openM hx
    exact k45_mkM _ _ _ _ (Kd.S_R g3))⟩

/-- Pages, one by one. -/
def pgsR : Nat → St → List S45 × St
  | 0, s => ([], s)
  | n + 1, s => if s.2 = true then ([], s) else (pgV s :: (pgsR n (pgE s)).1, (pgsR n (pgE s)).2)
def markOk (b : List Int) : Bool := (strOfNums (b.take 8)).toList == [112, 108, 97, 116, 101, 110, 65, 49]
def sumOk (b : List Int) : Bool := (numR (b.drop (b.length - 8)) false).1 == wrap64 (fnvs (b.take (b.length - 8)))
def g0 (b : List Int) : St := ((b.take (b.length - 8)).drop 8, false)
def g4 (b : List Int) : St := ns (ns (ns (ns (g0 b))))
def gM (b : List Int) : Int × St := mnyR 25 (g4 b).1 (g4 b).2
def gP (b : List Int) : List S45 := (pgsR (gM b).1.toNat (gM b).2).1
def gE (b : List Int) : St := (pgsR (gM b).1.toNat (gM b).2).2
def gOk (b : List Int) : Bool := !((gE b).2 || decide (0 < (gE b).1.length) || decide (nv (ns (ns (g0 b))) < 0) || decide (nv (ns (ns (ns (g0 b)))) < 0) || (nv (g0 b) != 0) && decide (0 < (gP b).length))
def getF (b : List Int) : Int × Int × Int × Int × List S45 × Int :=
  if 56 ≤ b.length ∧ markOk b = true ∧ sumOk b = true ∧ gOk b = true then (nv (g0 b), nv (ns (g0 b)), nv (ns (ns (g0 b))), nv (ns (ns (ns (g0 b)))), gP b, 0)
  else (0, 0, 0, 0, [], 200)
end Go.Proofs.Ytihiapjfdgoomaa.A
