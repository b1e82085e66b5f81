/- Laws on copies of strings into rows of the call's own. Contracts of the writer of package answer. Contracts of the writer of package answer: numbers. Contracts of the writer of package answer: a box. -/
import Derived.Test.YtihiapjfdgoomaaWZeros
import Derived.Test.YtihiapjfdgoomaaWKept
import Derived.Test.YtihiapjfdgoomaaWMore
import Derived.Laws.CopyOwn
import Derived.Lib.AppendStr
import Derived.Test.YtihiapjfdgoomaaProg
import Derived.Outline
namespace Go.Proofs.Ytihiapjfdgoomaa.A
open Go.RowKit Go.Proofs.YtihiapjfdgoomaaW.PrintWords Go.Proofs.YtihiapjfdgoomaaW.PrintLast Go.Proofs.YtihiapjfdgoomaaW.PrintMore
set_option linter.unusedVariables false
set_option linter.unusedSimpArgs false

variable {P : Program}

theorem strCells_nums (s : ByteArray) : Lib.strCells s = nums .u8 (bytesOf s) := by
  simp [Lib.strCells, nums, bytesOf, List.map_map]

theorem run_copy_string_row (w : World) (dT sT ty elem : TypeId) (g o dLen dCap : Nat) (cur : Array Value) (t : TypeId) (s : ByteArray)
    (hu : P.underlying dT = some (.slice elem)) (hs : (P.info? elem).map (·.size) = some 1)
    (hg : w.heap[g]? = some (.cells cur t (0, 0))) (hn : s.size ≤ dLen) (hfit : o + s.size ≤ cur.size) :
    (Builtin.copy_ #[dT, sT] ty #[.slice (some ⟨g, o, none⟩) dLen dCap, .string s]).run P w =
      .ok (goInt s.size) (w.setRow g (cur.toList.take o ++ Lib.strCells s ++ cur.toList.drop (o + s.size)).toArray) := by
  have hst := run_storeCells_at P g o t (Lib.strCells s) 0 cur w hg (by simpa [Lib.strCells_length] using hfit) (Lib.strCells_oneCell s)
  simp only [Nat.add_zero, Lib.strCells_length] at hst
  have hf := Lib.run_firstCells_string (P := P) w 1 s
  have hm : Nat.min s.size dLen = s.size := Nat.min_eq_left hn
  cases hq : P.info? elem with
  | none => simp [hq] at hs
  | some i =>
    have hi : i.size = 1 := by simpa [hq] using hs
    simp [Builtin.copy_, run_underlying hu, Builtin.lenOf, sizeOf, typeInfo, hq, hi, hm, hf, hst]

theorem run_copy_string_none (w : World) (dT sT ty elem : TypeId) (A : Option Addr) (dLen dCap : Nat) (s : ByteArray)
    (hu : P.underlying dT = some (.slice elem)) (hs : (P.info? elem).map (·.size) = some 1) (h0 : s.size = 0) :
    (Builtin.copy_ #[dT, sT] ty #[.slice A dLen dCap, .string s]).run P w = .ok (goInt 0) w := by
  have hc : Lib.strCells s = [] := List.eq_nil_of_length_eq_zero (by rw [Lib.strCells_length]; exact h0)
  have hf := Lib.run_firstCells_string (P := P) w 1 s
  rw [hc, h0] at hf
  have hm : Nat.min s.size dLen = 0 := by rw [h0]; exact Nat.zero_min _
  cases hq : P.info? elem with
  | none => simp [hq] at hs
  | some i =>
    have hi : i.size = 1 := by simpa [hq] using hs
    cases A <;> simp [Builtin.copy_, run_underlying hu, Builtin.lenOf, sizeOf, typeInfo, hq, hi, hm, hf, storeCells]

theorem own_nums_of_R {e : Nat} {W : World} {base : Nat} {ok : Nat → Prop} {v : Value} {xs : List Int} (h : (Kd.int .u8).R e W base ok v xs) :
    W.ownsRow base e 1 v xs.length (nums .u8 xs) := Kd.own_of_R (enc := Value.int .u8) (h1 := fun _ => rfl) h

theorem R_copy_string {ops : Array Oper} {rest : List Oper} {o : Oper} {a : Act} {Q : Exit → Act → World → Prop} {w0 W : World} (base : Nat) (hgd : o.guard = none) (s x : Operand) (t t' e : TypeId)
    (ho : o.op = .call { callee := .builtin .copy, args := #[s, x], argTypes := #[t, t'] }) (ht : P.underlying t = some (.slice e)) (hinfo : (P.info? e).map (·.size) = some 1)
    (A : Option Addr) (c : Nat) (xs : List Int) (n : Nat) (str : ByteArray) (ok : Nat → Prop) (A' : Option Addr) (m' c' : Nat) (hs : a.eval s = .slice A' m' c') (hx : a.eval x = .string str)
    (hA' : 0 < str.size → A' = A.map (·.add n)) (hm' : str.size ≤ m')
    (HO : (Kd.int .u8).R e W base ok (.slice A xs.length c) xs) (hlen : n + str.size ≤ xs.length) (HB : Below base w0 W) (hbase : base ≤ W.heap.size)
    (h : ∀ w1, (Kd.int .u8).R e w1 base ok (.slice A xs.length c) (xs.take n ++ bytesOf str ++ xs.drop (n + str.size)) → Below base w0 w1 → W.grownBy w1 (Value.slice A xs.length c).ownBlock → wpList P ops Q rest (a.put o.dst (.int .i64 (str.size : Int))) w1) :
    wpList P ops Q (o :: rest) a W := by
  have hown := own_nums_of_R HO
  have fin : ∀ w1, (Builtin.copy_ #[t, t'] o.type #[.slice A' m' c', .string str]).run P W = .ok (goInt str.size) w1 → (Kd.int .u8).R e w1 base ok (.slice A xs.length c) (xs.take n ++ bytesOf str ++ xs.drop (n + str.size)) → W.grownBy w1 (Value.slice A xs.length c).ownBlock → wpList P ops Q (o :: rest) a W := by
    intro w1 hr hrow hg
    refine wpList_plain hgd fun K hK => ?_
    unfold Oper.wp execOp
    simp only [ho, resolve, invoke, builtin, Sem.run_bind, Sem.run_pure, Result.andThen_ok, List.map_toArray, List.map_cons, List.map_nil, hs, hx, hr]
    exact hK _ _ (h w1 hrow (HB.grown hg hbase (own_base hown)) hg)
  rcases Nat.eq_zero_or_pos str.size with h0 | hp
  · have hb0 : bytesOf str = [] := List.eq_nil_of_length_eq_zero (by rw [bytesOf_length]; exact h0)
    refine fin W ?_ ?_ (World.grownBy.refl W _)
    · rw [h0]; exact run_copy_string_none W t t' o.type e _ _ _ str ht hinfo h0
    · rw [hb0, h0, List.append_nil, Nat.add_zero, List.take_append_drop]; exact HO
  · rcases hown.2 with ⟨hv, _⟩ | ⟨g, cap, cur, hv, hb, hh, hnc, hcm, hcs, htake⟩
    · injection hv; omega
    injection hv with hA _ hcc
    subst hA; subst hcc
    rw [Nat.mul_one] at hcs htake
    have ha : A' = some ⟨g, n, none⟩ := by
      rw [hA' hp]; simp [add_plain]
    have hr := run_copy_string_row (P := P) W t t' o.type e g n m' c' cur e str ht hinfo hh hm' (by omega)
    refine fin _ (by rw [ha]; exact hr) ?_ ?_
    · refine Kd.R_of_own ?_ HO.1
      have hl : (xs.take n ++ bytesOf str ++ xs.drop (n + str.size)).length = xs.length := by
        simp only [List.length_append, List.length_take, List.length_drop, bytesOf_length]; omega
      rw [hl]
      refine ⟨by rw [encs_length, hl, Nat.mul_one], .inr ⟨g, c, _, rfl, hb, setRow_heap W g cur _ e (0, 0) hh, hnc, hcm, ?_, ?_⟩⟩
      · simp only [List.size_toArray, List.length_append, List.length_take, List.length_drop, Lib.strCells_length, Array.length_toList]; omega
      · have hx : cur.toList.take xs.length = nums .u8 xs := htake
        have e1 : cur.toList.take n = nums .u8 (xs.take n) := by
          have : cur.toList.take n = (cur.toList.take xs.length).take n := by rw [List.take_take]; congr 1; omega
          rw [this, hx]; simp [nums, List.map_take]
        have e2 : (cur.toList.drop (n + str.size)).take (xs.length - (n + str.size)) = nums .u8 (xs.drop (n + str.size)) := by
          rw [← List.drop_take, hx]; simp [nums, List.map_drop]
        have e3 : encs (Value.int .u8) (xs.take n ++ bytesOf str ++ xs.drop (n + str.size)) = nums .u8 (xs.take n) ++ Lib.strCells str ++ nums .u8 (xs.drop (n + str.size)) := by
          rw [strCells_nums]; simp [encs, nums]
        rw [e3, e1, Nat.mul_one]
        have l1 : (nums .u8 (xs.take n) ++ Lib.strCells str).length = n + str.size := by
          simp only [List.length_append, nums_length, Lib.strCells_length, List.length_take]; omega
        simp only [List.toList_toArray]
        rw [List.take_append, l1, List.take_of_length_le (by rw [l1]; omega), e2]
    · exact ⟨rfl, rfl, rfl, by simp [World.setRow], fun k hk hne2 => setRow_other W g k _ (fun he => hne2 (by rw [he]; simp [Value.ownBlock]))⟩
end Go.Proofs.Ytihiapjfdgoomaa.A
namespace Go.Proofs.Ytihiapjfdgoomaa.A
open Go.RowKit Go.Proofs.YtihiapjfdgoomaaW.PrintWords Go.Proofs.YtihiapjfdgoomaaW.PrintLast Go.Proofs.YtihiapjfdgoomaaW.PrintMore
set_option linter.unusedVariables false
set_option linter.unusedSimpArgs false

/-- A writer at block g, whose bytes are a row of the call's own. -/
def IsW (w0 W : World) (g : Nat) (P : Nat → Prop) (bs : List Int) : Prop :=
  ∃ v, W.heap[g]? = some (.cells #[v] 53 (0, 0)) ∧ w0.heap.size ≤ g ∧ (Kd.int .u8).R 5 W w0.heap.size P v bs

theorem info5 : (Try.prog.info? 5).map (fun i => (i.zero, i.size, i.bytes)) = some (some (.int .u8 0), 1, 1) := by kernel_rfl
theorem info5s : (Try.prog.info? 5).map (·.size) = some 1 := by kernel_rfl

/-- The last step of lay, without the walk. -/
theorem lay_end {P : Nat → Prop} {g : Nat} {bs : List Int} {s : ByteArray} {w0 w w1 w3 : World} {A A1 : Option Addr} {c c1 : Nat} (hg : w0.heap.size ≤ g)
    (HR : (Kd.int .u8).R 5 w w0.heap.size P (.slice A bs.length c) bs)
    (BK2 : (w1.setCell ⟨g, 0, none⟩ (.slice A1 (bs.length + s.size) c1)).heap[g]? = some (.cells (#[Value.slice A bs.length c].setIfInBounds 0 (.slice A1 (bs.length + s.size) c1)) 53))
    (HG1 : w.grownBy w1 (Value.slice A bs.length c).ownBlock)
    (HR1 : (Kd.int .u8).R 5 (w1.setCell ⟨g, 0, none⟩ (.slice A1 (bs.length + s.size) c1)) w0.heap.size (fun k => P k ∨ w.heap.size ≤ k) (.slice A1 (bs ++ List.replicate (s.size : Int).toNat 0).length c1) (bs ++ List.replicate (s.size : Int).toNat 0))
    (HR3 : (Kd.int .u8).R 5 w3 w0.heap.size (fun k => P k ∨ w.heap.size ≤ k) (.slice A1 (bs ++ List.replicate (s.size : Int).toNat 0).length c1) (List.take bs.length (bs ++ List.replicate (s.size : Int).toNat 0) ++ bytesOf s ++ List.drop (bs.length + s.size) (bs ++ List.replicate (s.size : Int).toNat 0)))
    (HB3 : Below w0.heap.size w0 w3)
    (HG3 : (w1.setCell ⟨g, 0, none⟩ (.slice A1 (bs.length + s.size) c1)).grownBy w3 (Value.slice A1 (bs ++ List.replicate (s.size : Int).toNat 0).length c1).ownBlock) :
    IsW w0 w3 g (fun k => P k ∨ w.heap.size ≤ k) (bs ++ bytesOf s) ∧ Below w0.heap.size w0 w3 ∧ Kept w w3 (fun k => P k ∨ k = g) := by
  have e1 : (bs ++ List.replicate (s.size : Int).toNat 0).length = bs.length + s.size := by simp
  have e2 : List.take bs.length (bs ++ List.replicate (s.size : Int).toNat 0) ++ bytesOf s ++ List.drop (bs.length + s.size) (bs ++ List.replicate (s.size : Int).toNat 0) = bs ++ bytesOf s := by
    simp
  have hne := Kd.R_ne HR1 BK2 (by decide)
  refine ⟨⟨_, blk_grown BK2 HG3 hne, hg, ?_⟩, HB3, ?_⟩
  · rw [e1, e2] at HR3; exact HR3
  · have k1 : Kept w w1 (fun k => P k ∨ k = g) := Kept.of_grown HG1 (Kept.refl _ _) (fun k hk => .inl (.inl (HR.1 k hk)))
    have k2 : Kept w (w1.setCell ⟨g, 0, none⟩ (.slice A1 (bs.length + s.size) c1)) (fun k => P k ∨ k = g) := k1.setCell (p := ⟨g, 0, none⟩) (.inl (.inr rfl)) _
    exact Kept.of_grown HG3 k2 (fun k hk => (HR1.1 k hk).elim (fun h => .inl (.inl h)) .inr)

theorem lay_calls (P : Nat → Prop) (g : Nat) (bs : List Int) (s : ByteArray) (w0 w : World) (hI : IsW w0 w g P bs) (hB : Below w0.heap.size w0 w)
    (hl : bs.length + s.size ≤ 140737488355328) :
    Calls Try.prog 19 #[.pointer (some ⟨g, 0, none⟩), .string s] w fun e w' => e = .returned (.tuple #[]) ∧
      IsW w0 w' g (fun k => P k ∨ w.heap.size ≤ k) (bs ++ bytesOf s) ∧ Below w0.heap.size w0 w' ∧ Kept w w' (fun k => P k ∨ k = g) := by
  obtain ⟨v, hb, hg, hR⟩ := hI
  obtain ⟨A, c, rfl, hc, hC⟩ := Kd.R_reads hR
  have hcell : w.cell? ⟨g, 0, none⟩ = some (.slice A bs.length c) := (blk_cell hb 0).trans rfl
  have hne := Kd.R_ne hR hb (by decide)
  have HB := Aside0.mk hB
  have HR := Aside0.mk hR
  have HBK := Aside0.mk hb
  have HNE := Aside0.mk hne
  clear hB hR hC hb hne
  go_enter Try.func19, Try.ntmps19
  go_wp2_with (first
    | ((with_reducible refine gate_dst (N := 17) rfl ?_); go_loud (refine Kd.R_append_zeros (Kd.int .u8) (w0 := w0) w0.heap.size rfl (.tmp 14) (.tmp 16) 32 3 5 (.int .u8 0) 1 rfl Try.underlying32 Try.underlying3 info5 rfl (by decide) (by decide) (.slice A bs.length c) bs 0 (s.size : Int) (fun k => P k ∨ w.heap.size ≤ k) rfl rfl (by rfl) (fun k hk => .inr hk) (Kd.R_mono HR.out (fun k hk => .inl hk)) (by omega) HB.out HB.out.size (by simp; omega) ?_); intro v1 w1 HR1 HB1 HG1 HD1; obtain ⟨A1, c1, hv1, hc1, _⟩ := Kd.R_reads HR1; subst hv1; simp only [List.length_append, List.length_replicate, Int.toNat_natCast] at hc1; have BK1 := blk_grown HBK.out HG1 HNE.out; have BK2 := Aside0.mk (blk_put BK1 0 (.slice A1 (bs.length + s.size) c1) rfl); have hcell1 := (blk_cell BK1 0).trans rfl; have hcell2 := (blk_cell BK2.out 0).trans rfl; have hfr1 := blk_frozen BK1 0; have HR1' := Aside0.mk (Kd.R_set HR1 BK1 (by decide) 0 (.slice A1 (bs.length + s.size) c1)); have HB1' := Aside0.mk (below_set (j := 0) (v := (.slice A1 (bs.length + s.size) c1)) HB1 hg); have HG1' := Aside0.mk HG1; clear HR1 HB1 HG1 HD1 BK1)
    | ((with_reducible refine gate_dst (N := 27) rfl ?_); go_loud (refine R_copy_string (w0 := w0) w0.heap.size rfl (.tmp 25) (.tmp 26) 32 9 5 rfl Try.underlying32 info5s A1 c1 (bs ++ List.replicate (s.size : Int).toNat 0) bs.length s (fun k => P k ∨ w.heap.size ≤ k) _ _ _ rfl rfl (by intro h0; first | rfl | omega | (rw [if_neg (by omega)])) (by omega) HR1'.out (by simp) HB1'.out HB1'.out.size ?_); intro w3 HR3 HB3 HG3; have HR3' := Aside0.mk HR3; have HB3' := Aside0.mk HB3; have HG3' := Aside0.mk HG3; clear HR3 HB3 HG3))
  all_goals
    go_end0
    exact ⟨rfl, lay_end hg HR.out BK2.out HG1'.out HR1'.out HR3'.out HB3'.out HG3'.out⟩
end Go.Proofs.Ytihiapjfdgoomaa.A
namespace Go.Proofs.Ytihiapjfdgoomaa.A
open Go.RowKit Go.Proofs.YtihiapjfdgoomaaW.PrintWords Go.Proofs.YtihiapjfdgoomaaW.PrintLast Go.Proofs.YtihiapjfdgoomaaW.PrintMore
set_option linter.unusedVariables false
set_option linter.unusedSimpArgs false

/-- A number's eight bytes, the highest first. -/
def be8 (n : Int) : List Int :=
  [IntKind.u64.wrap n / 72057594037927936 % 256, IntKind.u64.wrap n / 281474976710656 % 256, IntKind.u64.wrap n / 1099511627776 % 256, IntKind.u64.wrap n / 4294967296 % 256,
   IntKind.u64.wrap n / 16777216 % 256, IntKind.u64.wrap n / 65536 % 256, IntKind.u64.wrap n / 256 % 256, IntKind.u64.wrap n % 256]

theorem conv8 (w : World) (b0 b1 b2 b3 b4 b5 b6 b7 : Int) :
    (convert 32 9 (.slice (some ⟨w.heap.size, 0, none⟩) 8 8)).run Try.prog (w.alloc (.cells #[.int .u8 b0, .int .u8 b1, .int .u8 b2, .int .u8 b3, .int .u8 b4, .int .u8 b5, .int .u8 b6, .int .u8 b7] 79)) =
      .ok (.string (strOfNums [b0, b1, b2, b3, b4, b5, b6, b7])) (w.alloc (.cells #[.int .u8 b0, .int .u8 b1, .int .u8 b2, .int .u8 b3, .int .u8 b4, .int .u8 b5, .int .u8 b6, .int .u8 b7] 79)) := by
  refine string_of_reads Try.underlying32 Try.underlying5 Try.underlying9 (n := 8) ⟨rfl, by omega, fun _ => ⟨_, rfl, fun j hj => ?_⟩⟩
  have hb := heap_alloc_new w (.cells #[.int .u8 b0, .int .u8 b1, .int .u8 b2, .int .u8 b3, .int .u8 b4, .int .u8 b5, .int .u8 b6, .int .u8 b7] 79)
  rw [add_plain, blk_cell hb]
  match j, hj with
  | 0, _ | 1, _ | 2, _ | 3, _ | 4, _ | 5, _ | 6, _ | 7, _ => rfl

theorem bytesOf_strOfNums (xs : List Int) (h : ∀ x ∈ xs, 0 ≤ x ∧ x < 256) : bytesOf (strOfNums xs) = xs := by
  rw [bytesOf, strOfNums_data, List.map_map]
  conv => rhs; rw [← List.map_id xs]
  refine List.map_congr_left fun x hx => ?_
  obtain ⟨h0, h1⟩ := h x hx
  simp only [Function.comp, id]
  have : x.toNat < 256 := by omega
  rw [show (UInt8.ofNat x.toNat).toNat = x.toNat from by simp; omega]
  omega

theorem bytesOf_be8 (n : Int) : bytesOf (strOfNums (be8 n)) = be8 n := by
  refine bytesOf_strOfNums _ fun x hx => ?_
  simp only [be8, List.mem_cons, List.not_mem_nil, or_false] at hx
  rcases hx with rfl | rfl | rfl | rfl | rfl | rfl | rfl | rfl <;> omega

theorem IsW.alloc {w0 W : World} {g : Nat} {P : Nat → Prop} {bs : List Int} (h : IsW w0 W g P bs) (o : Obj) : IsW w0 (W.alloc o) g P bs := by
  obtain ⟨v, hb, hg, hR⟩ := h
  exact ⟨v, (Below.heap_alloc W o g (blk_lt hb)).trans hb, hg, Kd.R_alloc hR o⟩
theorem IsW.mono {w0 W : World} {g : Nat} {P P' : Nat → Prop} {bs : List Int} (h : IsW w0 W g P bs) (hp : ∀ k, P k → P' k) : IsW w0 W g P' bs := by
  obtain ⟨v, hb, hg, hR⟩ := h
  exact ⟨v, hb, hg, Kd.R_mono hR hp⟩
theorem kept_of_alloc {w w' : World} {o : Obj} {S : Nat → Prop} (h : Kept (w.alloc o) w' S) : Kept w w' S :=
  (Kept.of_below (below_alloc (Below.refl _ _) o) S).then_ h (fun k hk => .inl hk)

theorem number_calls (P : Nat → Prop) (g : Nat) (bs : List Int) (n : Int) (w0 w : World) (hI : IsW w0 w g P bs) (hB : Below w0.heap.size w0 w)
    (hl : bs.length + 8 ≤ 140737488355328) :
    Calls Try.prog 20 #[.pointer (some ⟨g, 0, none⟩), .int .i64 n] w fun e w' => e = .returned (.tuple #[]) ∧
      IsW w0 w' g (fun k => P k ∨ w.heap.size ≤ k) (bs ++ be8 n) ∧ Below w0.heap.size w0 w' ∧ Kept w w' (fun k => P k ∨ k = g) := by
  have HI := Aside0.mk hI
  have HB := Aside0.mk hB
  have hcv := fun b0 b1 b2 b3 b4 b5 b6 b7 => conv8 w b0 b1 b2 b3 b4 b5 b6 b7
  clear hB hI
  go_enter Try.func20, Try.ntmps20
  go_wp2_with fail
  refine wp_loop_rounds 9 ?_
  iterate 9 (rw [rounds_succ]; go_wp2_with fail)
  refine (lay_calls P g bs (strOfNums (be8 n)) w0 _ (HI.out.alloc _) (below_alloc HB.out _) ?_).mono ?_
  · rw [← bytesOf_length, bytesOf_be8]; exact hl
  rintro e w' ⟨rfl, hI', hB', hK'⟩
  rw [bytesOf_be8] at hI'
  go_wp2
  go_end0
  exact ⟨rfl, hI'.mono (fun k hk => hk.imp id (fun h => by simp at h; omega)), hB', kept_of_alloc hK'⟩

theorem truth_calls (P : Nat → Prop) (g : Nat) (bs : List Int) (t : Bool) (w0 w : World) (hI : IsW w0 w g P bs) (hB : Below w0.heap.size w0 w)
    (hl : bs.length + 1 ≤ 140737488355328) :
    Calls Try.prog 21 #[.pointer (some ⟨g, 0, none⟩), .bool t] w fun e w' => e = .returned (.tuple #[]) ∧
      IsW w0 w' g (fun k => P k ∨ w.heap.size ≤ k) (bs ++ [if t then 1 else 0]) ∧ Below w0.heap.size w0 w' ∧ Kept w w' (fun k => P k ∨ k = g) := by
  have HI := Aside0.mk hI
  have HB := Aside0.mk hB
  clear hB hI
  cases t with
  | true =>
    go_enter Try.func21, Try.ntmps21
    go_wp2_with (go_at_call 19; go_loud (refine (lay_calls P g bs ⟨#[1]⟩ w0 _ HI.out HB.out hl).mono ?_); rintro e w' ⟨rfl, hI', hB', hK'⟩; have HI' := Aside0.mk hI'; have HB' := Aside0.mk hB'; have HK' := Aside0.mk hK'; clear hI' hB' hK')
    refine bodyPost_ret (results_none rfl _ _ _) rfl ?_
    exact ⟨rfl, HI'.out, HB'.out, HK'.out⟩
  | false =>
    go_enter Try.func21, Try.ntmps21
    go_wp2_with (go_at_call 19; go_loud (refine (lay_calls P g bs ⟨#[0]⟩ w0 _ HI.out HB.out hl).mono ?_); rintro e w' ⟨rfl, hI', hB', hK'⟩; have HI' := Aside0.mk hI'; have HB' := Aside0.mk hB'; have HK' := Aside0.mk hK'; clear hI' hB' hK')
    go_end0
    exact ⟨rfl, HI'.out, HB'.out, HK'.out⟩

theorem text_calls (P : Nat → Prop) (g : Nat) (bs : List Int) (s : ByteArray) (w0 w : World) (hI : IsW w0 w g P bs) (hB : Below w0.heap.size w0 w)
    (hl : bs.length + 8 + s.size ≤ 140737488355328) :
    Calls Try.prog 38 #[.pointer (some ⟨g, 0, none⟩), .string s] w fun e w' => e = .returned (.tuple #[]) ∧
      IsW w0 w' g (fun k => P k ∨ w.heap.size ≤ k) (bs ++ (be8 s.size ++ bytesOf s)) ∧ Below w0.heap.size w0 w' ∧ Kept w w' (fun k => P k ∨ k = g) := by
  have HI := Aside0.mk hI
  have HB := Aside0.mk hB
  clear hB hI
  go_enter Try.func38, Try.ntmps38
  go_wp2_with (first
    | (go_at_call 20; refine (number_calls P g bs _ w0 _ HI.out HB.out (by omega)).mono ?_; rintro e w1 ⟨rfl, hI', hB', hK'⟩; have HI' := Aside0.mk hI'; have HB' := Aside0.mk hB'; have HK' := Aside0.mk hK'; clear hI' hB' hK')
    | (go_at_call 19; refine (lay_calls _ g _ _ w0 _ HI'.out HB'.out (by simp [be8]; omega)).mono ?_; rintro e w2 ⟨rfl, hI', hB', hK'⟩; have HI2 := Aside0.mk hI'; have HB2 := Aside0.mk hB'; have HK2 := Aside0.mk hK'; clear hI' hB' hK'))
  go_end0
  refine ⟨rfl, ?_, HB2.out, ?_⟩
  · rw [← List.append_assoc]
    exact HI2.out.mono (fun k hk => hk.elim id (fun h => .inr (Nat.le_trans HK'.out.1 h)))
  · exact HK'.out.then_ HK2.out (fun k hk => hk.elim (fun h => h.elim (fun h => .inl (.inl h)) .inr) (fun h => .inl (.inr h)))
end Go.Proofs.Ytihiapjfdgoomaa.A
namespace Go.Proofs.Ytihiapjfdgoomaa.A
open Go.RowKit Go.Proofs.YtihiapjfdgoomaaW.PrintWords Go.Proofs.YtihiapjfdgoomaaW.PrintLast Go.Proofs.YtihiapjfdgoomaaW.PrintMore
set_option linter.unusedVariables false
set_option linter.unusedSimpArgs false

/-- A writer at block g, whose bytes are a row of the call's own. -/
def IsB (w0 W : World) (g : Nat) (bs : List Int) : Prop := IsW w0 W g (fun _ => True) bs
/-- All that is no row of bytes, and not the writer, stays. -/
def KT (w w' : World) (g : Nat) : Prop := w.heap.size ≤ w'.heap.size ∧ ∀ i o, w.heap[i]? = some o → i ≠ g → (∀ cs, o ≠ .cells cs 5 (0, 0)) → w'.heap[i]? = some o
theorem KT.refl (w : World) (g : Nat) : KT w w g := ⟨Nat.le_refl _, fun _ _ h _ _ => h⟩
theorem KT.trans {w w1 w2 : World} {g : Nat} (h : KT w w1 g) (k : KT w1 w2 g) : KT w w2 g := ⟨Nat.le_trans h.1 k.1, fun i o ho hi ht => k.2 i o (h.2 i o ho hi ht) hi ht⟩
theorem KT.below {w w1 : World} (h : Below w.heap.size w w1) (g : Nat) : KT w w1 g := ⟨h.size, fun i o ho _ _ => (h.block i (blk_lt ho)).trans ho⟩
theorem KT.alloc {w w1 : World} {g : Nat} (h : KT w w1 g) (o : Obj) : KT w (w1.alloc o) g := h.trans (KT.below (below_alloc (Below.refl _ _) o) g)
theorem KT.blk {w w1 : World} {g b t : Nat} {cs : Array Value} (h : KT w w1 g) (hb : w.heap[b]? = some (.cells cs t (0, 0))) (hg : b ≠ g) (ht : t ≠ 5) : w1.heap[b]? = some (.cells cs t (0, 0)) :=
  h.2 b _ hb hg (fun cs' e => by injection e with _ e; exact ht e)
theorem IsB.typed {w0 W : World} {g : Nat} {bs : List Int} (h : IsB w0 W g bs) : IsW w0 W g (fun k => ∃ cs, W.heap[k]? = some (.cells cs 5 (0, 0))) bs := by
  obtain ⟨v, hb, hg, hR⟩ := h
  refine ⟨v, hb, hg, Kd.R_mono (Kd.R_bound hR) (fun k hk => ?_)⟩
  obtain ⟨_, _, _, q, hq, cs, hc⟩ := hk
  have : q = 5 := by simpa [Kd.int, Kd.scalar] using hq
  exact ⟨cs, this ▸ hc⟩
theorem KT.of {w w' : World} {g : Nat} (h : Kept w w' (fun k => (∃ cs, w.heap[k]? = some (.cells cs 5 (0, 0))) ∨ k = g)) : KT w w' g :=
  ⟨h.1, fun i o ho hi ht => (h.2 i (blk_lt ho) (fun hs => hs.elim (fun ⟨cs, hc⟩ => by rw [ho] at hc; injection hc with hc; exact ht cs hc) hi)).trans ho⟩
theorem IsB.of {w0 W : World} {g : Nat} {P : Nat → Prop} {bs : List Int} (h : IsW w0 W g P bs) : IsB w0 W g bs := h.mono (fun _ _ => trivial)
theorem IsB.alloc {w0 W : World} {g : Nat} {bs : List Int} (h : IsB w0 W g bs) (o : Obj) : IsB w0 (W.alloc o) g bs := IsW.alloc h o
theorem IsB.lt {w0 W : World} {g : Nat} {bs : List Int} (h : IsB w0 W g bs) : g < W.heap.size := by
  obtain ⟨v, hb, _, _⟩ := h
  exact blk_lt hb
theorem IsB.below {w0 W W1 : World} {g : Nat} {bs : List Int} (h : IsB w0 W g bs) (hb : Below W.heap.size W W1) : IsB w0 W1 g bs := by
  obtain ⟨v, hbk, hg, hR⟩ := h
  exact ⟨v, (hb.block g (blk_lt hbk)).trans hbk, hg, Kd.R_below hR hb⟩

theorem number_T (g : Nat) (bs : List Int) (n : Int) (w0 w : World) (hI : IsB w0 w g bs) (hB : Below w0.heap.size w0 w) (hl : bs.length + 8 ≤ 140737488355328) :
    Calls Try.prog 20 #[.pointer (some ⟨g, 0, none⟩), .int .i64 n] w fun e w' => e = .returned (.tuple #[]) ∧ IsB w0 w' g (bs ++ be8 n) ∧ Below w0.heap.size w0 w' ∧ KT w w' g :=
  (number_calls _ g bs n w0 w hI.typed hB hl).mono fun _ _ ⟨h1, h2, h3, h4⟩ => ⟨h1, IsB.of h2, h3, KT.of h4⟩
theorem truth_T (g : Nat) (bs : List Int) (t : Bool) (w0 w : World) (hI : IsB w0 w g bs) (hB : Below w0.heap.size w0 w) (hl : bs.length + 1 ≤ 140737488355328) :
    Calls Try.prog 21 #[.pointer (some ⟨g, 0, none⟩), .bool t] w fun e w' => e = .returned (.tuple #[]) ∧ IsB w0 w' g (bs ++ [if t then 1 else 0]) ∧ Below w0.heap.size w0 w' ∧ KT w w' g :=
  (truth_calls _ g bs t w0 w hI.typed hB hl).mono fun _ _ ⟨h1, h2, h3, h4⟩ => ⟨h1, IsB.of h2, h3, KT.of h4⟩
theorem text_T (g : Nat) (bs : List Int) (s : ByteArray) (w0 w : World) (hI : IsB w0 w g bs) (hB : Below w0.heap.size w0 w) (hl : bs.length + 8 + s.size ≤ 140737488355328) :
    Calls Try.prog 38 #[.pointer (some ⟨g, 0, none⟩), .string s] w fun e w' => e = .returned (.tuple #[]) ∧ IsB w0 w' g (bs ++ (be8 s.size ++ bytesOf s)) ∧ Below w0.heap.size w0 w' ∧ KT w w' g :=
  (text_calls _ g bs s w0 w hI.typed hB hl).mono fun _ _ ⟨h1, h2, h3, h4⟩ => ⟨h1, IsB.of h2, h3, KT.of h4⟩
theorem lay_T (g : Nat) (bs : List Int) (s : ByteArray) (w0 w : World) (hI : IsB w0 w g bs) (hB : Below w0.heap.size w0 w) (hl : bs.length + s.size ≤ 140737488355328) :
    Calls Try.prog 19 #[.pointer (some ⟨g, 0, none⟩), .string s] w fun e w' => e = .returned (.tuple #[]) ∧ IsB w0 w' g (bs ++ bytesOf s) ∧ Below w0.heap.size w0 w' ∧ KT w w' g :=
  (lay_calls _ g bs s w0 w hI.typed hB hl).mono fun _ _ ⟨h1, h2, h3, h4⟩ => ⟨h1, IsB.of h2, h3, KT.of h4⟩

theorem numbers_calls (x0 x1 : Int) (x2 : ByteArray) (x3 x4 x5 x6 x7 x8 x9 : Int) (w : World) :
    Calls Try.prog 37 #[.agg #[.int .i64 x0, .int .i64 x1, .string x2, .int .i64 x3, .int .i64 x4, .int .i64 x5, .int .i64 x6, .int .i64 x7, .int .i64 x8, .int .i64 x9]] w fun e w' =>
      e = .returned (.agg #[.int .i64 x0, .int .i64 x1, .int .i64 x3, .int .i64 x4, .int .i64 x5, .int .i64 x6, .int .i64 x7, .int .i64 x8, .int .i64 x9]) ∧ Below w.heap.size w w' := by
  go_enter Try.func37, Try.ntmps37
  go_wp2
  refine bodyPost_ret (v := .agg #[.int .i64 x0, .int .i64 x1, .int .i64 x3, .int .i64 x4, .int .i64 x5, .int .i64 x6, .int .i64 x7, .int .i64 x8, .int .i64 x9]) (by simp [results, Try.results37, go_sem]) rfl ⟨rfl, ?_⟩
  repeat (first | exact Below.refl _ _ | apply below_alloc)

/-- A box's bytes. -/
def boxBytes (x0 x1 : Int) (x2 : ByteArray) (x3 x4 x5 x6 x7 x8 x9 : Int) : List Int :=
  be8 x0 ++ (be8 x1 ++ ((be8 x2.size ++ bytesOf x2) ++ (be8 x3 ++ (be8 x4 ++ (be8 x5 ++ (be8 x6 ++ (be8 x7 ++ (be8 x8 ++ be8 x9))))))))

theorem box_T (g : Nat) (bs : List Int) (x0 x1 : Int) (x2 : ByteArray) (x3 x4 x5 x6 x7 x8 x9 : Int) (w0 w : World) (hI : IsB w0 w g bs) (hB : Below w0.heap.size w0 w)
    (hl : bs.length + 80 + x2.size ≤ 140737488355328) :
    Calls Try.prog 22 #[.pointer (some ⟨g, 0, none⟩), .agg #[.int .i64 x0, .int .i64 x1, .string x2, .int .i64 x3, .int .i64 x4, .int .i64 x5, .int .i64 x6, .int .i64 x7, .int .i64 x8, .int .i64 x9]] w fun e w' =>
      e = .returned (.tuple #[]) ∧ IsB w0 w' g (bs ++ boxBytes x0 x1 x2 x3 x4 x5 x6 x7 x8 x9) ∧ Below w0.heap.size w0 w' ∧ KT w w' g := by
  have HI := Aside0.mk hI
  have HB := Aside0.mk hB
  have HL := Aside0.mk hl
  clear hB hI hl
  have hgw : g < w.heap.size := HI.out.lt
  go_enter Try.func22, Try.ntmps22
  go_wp2_with fail
  refine (numbers_calls _ _ _ _ _ _ _ _ _ _ _).mono ?_
  rintro e w1 ⟨rfl, hb⟩
  have HI1 := (HI.out.alloc _).below hb
  have HB1 := (below_alloc HB.out _).trans (hb.mono (by simpa using Nat.le_succ_of_le HB.out.size))
  have hs1 : w.heap.size + 1 ≤ w1.heap.size := by have := hb.size; simpa using this
  have k1 : w1.heap[w.heap.size]? = some (.cells #[.int .i64 x0, .int .i64 x1, .string x2, .int .i64 x3, .int .i64 x4, .int .i64 x5, .int .i64 x6, .int .i64 x7, .int .i64 x8, .int .i64 x9] 50 (0, 0)) := (hb.block _ (by simp)).trans (heap_alloc_new w _)
  have KK1 : KT w w1 g := (KT.below (below_alloc (Below.refl _ _) _) g).trans (KT.below hb g)
  have H0 := Aside0.mk (And.intro (HI1.alloc (.cells #[.int .i64 x0, .int .i64 x1, .int .i64 x3, .int .i64 x4, .int .i64 x5, .int .i64 x6, .int .i64 x7, .int .i64 x8, .int .i64 x9] 80)) (And.intro (below_alloc HB1 (.cells #[.int .i64 x0, .int .i64 x1, .int .i64 x3, .int .i64 x4, .int .i64 x5, .int .i64 x6, .int .i64 x7, .int .i64 x8, .int .i64 x9] 80)) (And.intro (KK1.alloc (.cells #[.int .i64 x0, .int .i64 x1, .int .i64 x3, .int .i64 x4, .int .i64 x5, .int .i64 x6, .int .i64 x7, .int .i64 x8, .int .i64 x9] 80)) (And.intro ((Below.heap_alloc w1 (.cells #[.int .i64 x0, .int .i64 x1, .int .i64 x3, .int .i64 x4, .int .i64 x5, .int .i64 x6, .int .i64 x7, .int .i64 x8, .int .i64 x9] 80) _ (by omega)).trans k1) (heap_alloc_new w1 (.cells #[.int .i64 x0, .int .i64 x1, .int .i64 x3, .int .i64 x4, .int .i64 x5, .int .i64 x6, .int .i64 x7, .int .i64 x8, .int .i64 x9] 80))))))
  have hne1 : w.heap.size ≠ g := by omega
  have hne2 : w1.heap.size ≠ g := by omega
  clear HI1 HB1 k1 KK1 hb HI HB
  have hc1 := blk_cell H0.out.2.2.2.1
  have hc2 := blk_cell H0.out.2.2.2.2
  go_wp2_with fail
  refine (number_T g _ x0 w0 _ H0.out.1 H0.out.2.1 (by have := HL.out; first | omega | (simp only [List.length_append, be8, List.length_cons, List.length_nil, bytesOf_length]; omega))).mono ?_
  rintro e W1 ⟨rfl, hI, hB, hK⟩
  have H1 := Aside0.mk (And.intro hI (And.intro hB (And.intro (H0.out.2.2.1.trans hK) (And.intro (hK.blk H0.out.2.2.2.1 hne1 (by decide)) (hK.blk H0.out.2.2.2.2 hne2 (by decide))))))
  clear hI hB hK H0 hc1 hc2
  have hc1 := blk_cell H1.out.2.2.2.1
  have hc2 := blk_cell H1.out.2.2.2.2
  go_wp2_with fail
  refine (number_T g _ x1 w0 _ H1.out.1 H1.out.2.1 (by have := HL.out; first | omega | (simp only [List.length_append, be8, List.length_cons, List.length_nil, bytesOf_length]; omega))).mono ?_
  rintro e W2 ⟨rfl, hI, hB, hK⟩
  have H2 := Aside0.mk (And.intro hI (And.intro hB (And.intro (H1.out.2.2.1.trans hK) (And.intro (hK.blk H1.out.2.2.2.1 hne1 (by decide)) (hK.blk H1.out.2.2.2.2 hne2 (by decide))))))
  clear hI hB hK H1 hc1 hc2
  have hc1 := blk_cell H2.out.2.2.2.1
  have hc2 := blk_cell H2.out.2.2.2.2
  go_wp2_with fail
  refine (text_T g _ x2 w0 _ H2.out.1 H2.out.2.1 (by have := HL.out; first | omega | (simp only [List.length_append, be8, List.length_cons, List.length_nil, bytesOf_length]; omega))).mono ?_
  rintro e W3 ⟨rfl, hI, hB, hK⟩
  have H3 := Aside0.mk (And.intro hI (And.intro hB (And.intro (H2.out.2.2.1.trans hK) (And.intro (hK.blk H2.out.2.2.2.1 hne1 (by decide)) (hK.blk H2.out.2.2.2.2 hne2 (by decide))))))
  clear hI hB hK H2 hc1 hc2
  go_wp2_with fail
  refine wp_loop_rounds 8 ?_
  rw [rounds_succ]
  have hc1 := blk_cell H3.out.2.2.2.1
  have hc2 := blk_cell H3.out.2.2.2.2
  go_wp2_with fail
  refine (number_T g _ x3 w0 _ H3.out.1 H3.out.2.1 (by have := HL.out; first | omega | (simp only [List.length_append, be8, List.length_cons, List.length_nil, bytesOf_length]; omega))).mono ?_
  rintro e W4 ⟨rfl, hI, hB, hK⟩
  have H4 := Aside0.mk (And.intro hI (And.intro hB (And.intro (H3.out.2.2.1.trans hK) (And.intro (hK.blk H3.out.2.2.2.1 hne1 (by decide)) (hK.blk H3.out.2.2.2.2 hne2 (by decide))))))
  clear hI hB hK H3 hc1 hc2
  go_wp2_with fail
  rw [rounds_succ]
  have hc1 := blk_cell H4.out.2.2.2.1
  have hc2 := blk_cell H4.out.2.2.2.2
  go_wp2_with fail
  refine (number_T g _ x4 w0 _ H4.out.1 H4.out.2.1 (by have := HL.out; first | omega | (simp only [List.length_append, be8, List.length_cons, List.length_nil, bytesOf_length]; omega))).mono ?_
  rintro e W5 ⟨rfl, hI, hB, hK⟩
  have H5 := Aside0.mk (And.intro hI (And.intro hB (And.intro (H4.out.2.2.1.trans hK) (And.intro (hK.blk H4.out.2.2.2.1 hne1 (by decide)) (hK.blk H4.out.2.2.2.2 hne2 (by decide))))))
  clear hI hB hK H4 hc1 hc2
  go_wp2_with fail
  rw [rounds_succ]
  have hc1 := blk_cell H5.out.2.2.2.1
  have hc2 := blk_cell H5.out.2.2.2.2
  go_wp2_with fail
  refine (number_T g _ x5 w0 _ H5.out.1 H5.out.2.1 (by have := HL.out; first | omega | (simp only [List.length_append, be8, List.length_cons, List.length_nil, bytesOf_length]; omega))).mono ?_
  rintro e W6 ⟨rfl, hI, hB, hK⟩
  have H6 := Aside0.mk (And.intro hI (And.intro hB (And.intro (H5.out.2.2.1.trans hK) (And.intro (hK.blk H5.out.2.2.2.1 hne1 (by decide)) (hK.blk H5.out.2.2.2.2 hne2 (by decide))))))
  clear hI hB hK H5 hc1 hc2
  go_wp2_with fail
  rw [rounds_succ]
  have hc1 := blk_cell H6.out.2.2.2.1
  have hc2 := blk_cell H6.out.2.2.2.2
  go_wp2_with fail
  refine (number_T g _ x6 w0 _ H6.out.1 H6.out.2.1 (by have := HL.out; first | omega | (simp only [List.length_append, be8, List.length_cons, List.length_nil, bytesOf_length]; omega))).mono ?_
  rintro e W7 ⟨rfl, hI, hB, hK⟩
  have H7 := Aside0.mk (And.intro hI (And.intro hB (And.intro (H6.out.2.2.1.trans hK) (And.intro (hK.blk H6.out.2.2.2.1 hne1 (by decide)) (hK.blk H6.out.2.2.2.2 hne2 (by decide))))))
  clear hI hB hK H6 hc1 hc2
  go_wp2_with fail
  rw [rounds_succ]
  have hc1 := blk_cell H7.out.2.2.2.1
  have hc2 := blk_cell H7.out.2.2.2.2
  go_wp2_with fail
  refine (number_T g _ x7 w0 _ H7.out.1 H7.out.2.1 (by have := HL.out; first | omega | (simp only [List.length_append, be8, List.length_cons, List.length_nil, bytesOf_length]; omega))).mono ?_
  rintro e W8 ⟨rfl, hI, hB, hK⟩
  have H8 := Aside0.mk (And.intro hI (And.intro hB (And.intro (H7.out.2.2.1.trans hK) (And.intro (hK.blk H7.out.2.2.2.1 hne1 (by decide)) (hK.blk H7.out.2.2.2.2 hne2 (by decide))))))
  clear hI hB hK H7 hc1 hc2
  go_wp2_with fail
  rw [rounds_succ]
  have hc1 := blk_cell H8.out.2.2.2.1
  have hc2 := blk_cell H8.out.2.2.2.2
  go_wp2_with fail
  refine (number_T g _ x8 w0 _ H8.out.1 H8.out.2.1 (by have := HL.out; first | omega | (simp only [List.length_append, be8, List.length_cons, List.length_nil, bytesOf_length]; omega))).mono ?_
  rintro e W9 ⟨rfl, hI, hB, hK⟩
  have H9 := Aside0.mk (And.intro hI (And.intro hB (And.intro (H8.out.2.2.1.trans hK) (And.intro (hK.blk H8.out.2.2.2.1 hne1 (by decide)) (hK.blk H8.out.2.2.2.2 hne2 (by decide))))))
  clear hI hB hK H8 hc1 hc2
  go_wp2_with fail
  rw [rounds_succ]
  have hc1 := blk_cell H9.out.2.2.2.1
  have hc2 := blk_cell H9.out.2.2.2.2
  go_wp2_with fail
  refine (number_T g _ x9 w0 _ H9.out.1 H9.out.2.1 (by have := HL.out; first | omega | (simp only [List.length_append, be8, List.length_cons, List.length_nil, bytesOf_length]; omega))).mono ?_
  rintro e W10 ⟨rfl, hI, hB, hK⟩
  have H10 := Aside0.mk (And.intro hI (And.intro hB (And.intro (H9.out.2.2.1.trans hK) (And.intro (hK.blk H9.out.2.2.2.1 hne1 (by decide)) (hK.blk H9.out.2.2.2.2 hne2 (by decide))))))
  clear hI hB hK H9 hc1 hc2
  go_wp2_with fail
  rw [rounds_succ]
  go_wp2_with fail
  go_end0
  refine ⟨rfl, ?_, H10.out.2.1, H10.out.2.2.1⟩
  have h := H10.out.1
  simp only [List.append_assoc] at h
  simpa only [boxBytes, List.append_assoc] using h
end Go.Proofs.Ytihiapjfdgoomaa.A
