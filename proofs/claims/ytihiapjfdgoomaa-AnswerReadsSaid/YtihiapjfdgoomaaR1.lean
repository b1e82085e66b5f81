/- What an argument that reads is, in the printed words' kinds: openers by type. Laws on copies of strings into rows of the call's own. Contracts of the writer of package answer. Contracts of the writer of package answer: numbers. Contracts of the writer of package answer: a box. Contracts of the reader of package answer. Contracts of the reader of package answer: numbers. Contracts of the reader of package answer: truths, texts, boxes. The contract of answer.Put. Contracts of the reader of package answer: boxes. Contracts of the reader of package answer: rows. Contracts of the reader of package answer: pages. What Get answers, and the kind of its pages. -/
import Derived.Test.YtihiapjfdgoomaaWWords
import Derived.Deep.Slices
import Derived.ChangeSame
import Derived.Test.YtihiapjfdgoomaaWZeros
import Derived.Test.YtihiapjfdgoomaaWKept
import Derived.Test.YtihiapjfdgoomaaWMore
import Derived.Laws.CopyOwn
import Derived.Lib.AppendStr
import Derived.Test.YtihiapjfdgoomaaProg
import Derived.Outline
import Derived.Below
import Derived.Deep.Draws
import Derived.Deep.AppendLies
import Derived.Maps.AppendAt
import Derived.OwnWalk
import Derived.Laws.BytesArg
import Derived.Laws.MakeOwn
import Derived.Laws.OwnMore
import Derived.Deep.OwnRows
import Derived.Tactics
import Derived.Lib.ConvBytes
import Derived.Laws.Slices
import Derived.WalkKit
import Derived.KernelRfl
import Derived.RowKit3
import Derived.Deep.LoopGhost
import Derived.Deep.QuietTactic
import Derived.BigQuiet
import Derived.WideLaws
import Derived.Deep.DeepCutAuto
import Derived.Deep.CutBlock
import Derived.Deep.RegionHeld3
import Derived.Laws.Rows
import Derived.ArgAppend
import Derived.Laws.IdiomCopy
import Derived.OrdersHeld
import Derived.Laws.BitsLemmas
import Derived.RowKit
import Derived.Test.YtihiapjfdgoomaaWLast
import Derived.Test.YtihiapjfdgoomaaWTab
import Derived.Test.YtihiapjfdgoomaaWFour
import Derived.Test.YtihiapjfdgoomaaWQPut
import Derived.Test.YtihiapjfdgoomaaWApart
import Derived.Test.YtihiapjfdgoomaaWArr
import Derived.Test.YtihiapjfdgoomaaWFoot
import Derived.Test.YtihiapjfdgoomaaWShare
import Derived.Test.YtihiapjfdgoomaaWN
import Derived.Test.YtihiapjfdgoomaaWFootNe
import Derived.Test.YtihiapjfdgoomaaWAt
import Derived.Test.YtihiapjfdgoomaaWEqStruct
import Derived.Test.YtihiapjfdgoomaaWRepsOne
import Derived.Test.YtihiapjfdgoomaaWInv
import Derived.Test.YtihiapjfdgoomaaWInvWords
import Derived.Test.YtihiapjfdgoomaaWGuard
import Derived.Test.YtihiapjfdgoomaaWNEv
import Derived.Deep.RegionLaw
namespace Go.Proofs.YtihiapjfdgoomaaW.Opened
open Go.RowKit Go.Proofs.YtihiapjfdgoomaaW.PrintWords
set_option linter.unusedVariables false
set_option linter.unusedSimpArgs false
def Opens {α : Type} (P : Program) (t : Nat) (d : Kd α) (ok : α → Prop) : Prop :=
  ∀ (H : Type) (enc : TypeId × Value → H) (w : World) (base : Nat) (spare : Nat → Bool) (held : Bool) (fuel : Nat) (cs : List Value) (x : DataW H × List MemPlace),
    DataW.trod enc P w base spare held fuel t cs = some x → ∃ a : α, d.K w a cs ∧ ok a
variable {P : Program}
theorem opens_int {t : Nat} {k : IntKind} (ht : P.underlying t = some (.int k)) : Opens P t (Kd.int k) (fun n => (Lit.int k n).wf = true) := by
  intro H enc w base spare held fuel cs x h
  obtain ⟨n, rfl, _, hw⟩ := DataW.trod_int ht h
  exact ⟨n, rfl, hw⟩
theorem opens_bool {t : Nat} (ht : P.underlying t = some .bool) : Opens P t Kd.bool (fun _ => True) := by
  intro H enc w base spare held fuel cs x h
  obtain ⟨b, rfl, _⟩ := DataW.trod_bool ht h
  exact ⟨b, rfl, trivial⟩
theorem opens_string {t : Nat} (ht : P.underlying t = some .string) : Opens P t Kd.string (fun s => s.size ≤ maxLen) := by
  intro H enc w base spare held fuel cs x h
  obtain ⟨b, rfl, _, hs⟩ := DataW.trod_string ht h
  exact ⟨b, rfl, hs⟩
theorem slice_opens {α : Type} [Inhabited α] {t e : Nat} {d : Kd α} {ok : α → Prop} (ht : P.underlying t = some (.slice e)) (hc : P.cellsOf e = d.sz) (ho : Opens P e d ok)
    {H : Type} {enc : TypeId × Value → H} {w : World} {base : Nat} {spare : Nat → Bool} {held : Bool} {fuel : Nat} {cs : List Value} {x : DataW H × List MemPlace} (h : DataW.trod enc P w base spare held fuel t cs = some x) :
    ∃ (xs : List α) (A : Option Addr) (c : Nat), cs = [.slice A xs.length c] ∧ xs.length ≤ c ∧ c ≤ maxLen ∧ d.C w A xs.length xs ∧ ∀ a ∈ xs, ok a := by
  rcases Go.Deep.open_slice ht h with ⟨rfl, _⟩ | ⟨a, len, cap, m, n, D, Pl, rfl, hb, hl, hm, hmm, _, hx⟩
  · exact ⟨[], none, 0, rfl, Nat.le_refl _, Nat.zero_le _, Kd.C_nil _ _, fun _ h => nomatch h⟩
  · have hlm : len ≤ m := by rw [hmm]; split <;> omega
    have each : ∀ i, i < len → ∃ q : α, ok q ∧ ∃ cs', d.K w q cs' ∧ w.cells? base (a.add (i * P.cellsOf e)) (P.cellsOf e) = some cs' := by
      intro i hi
      obtain ⟨cs', h1, h2⟩ := hx i (by omega)
      obtain ⟨q, hq, hok⟩ := ho H enc w base spare held n cs' _ h2
      exact ⟨q, hok, cs', hq, h1⟩
    obtain ⟨q, hq⟩ := Go.Deep.choose_lt each
    have hlen : ((List.range len).map q).length = len := by simp
    refine ⟨(List.range len).map q, some a, cap, by rw [hlen], by rw [hlen]; exact hl, hm, ?_, ?_⟩
    · refine ⟨rfl, by rw [hlen]; unfold maxLen at hm; omega, fun _ => ⟨a, rfl, fun j p hj => ?_⟩⟩
      have hjl : j < len := by
        have := (List.getElem?_eq_some_iff.1 hj).1
        rw [hlen] at this
        exact this
      have hp : p = q j := by
        rw [List.getElem?_map, List.getElem?_range hjl] at hj
        exact (Option.some.inj hj).symm
      subst hp
      obtain ⟨_, cs', hK, hcells⟩ := hq j hjl
      obtain ⟨_, hl2, hcell⟩ := World.cells?_some hcells
      refine ⟨cs', by rw [hl2, hc], hK, fun i u hu => ?_⟩
      have hi : i < P.cellsOf e := by
        rw [← hl2]
        exact (List.getElem?_eq_some_iff.1 hu).1
      have := hcell i hi
      rw [Go.Deep.add_add, hc, hu] at this
      exact this
    · intro y hy
      obtain ⟨i, hi, rfl⟩ := List.mem_map.1 hy
      exact (hq i (List.mem_range.1 hi)).1
theorem struct_opens {t : Nat} {fs : Array Field} (ht : P.underlying t = some (.struct fs))
    {H : Type} {enc : TypeId × Value → H} {w : World} {base : Nat} {spare : Nat → Bool} {held : Bool} {fuel : Nat} {cs : List Value} {x : DataW H × List MemPlace} (h : DataW.trod enc P w base spare held fuel t cs = some x) :
    cs.length = P.cellsOf t ∧ ∃ n, ∀ (i : Nat) (f : Field), fs[i]? = some f → ∃ y, DataW.trod enc P w base spare held n f.type ((cs.drop f.offset).take (P.cellsOf f.type)) = some y := by
  obtain ⟨xs, n, _, _, hl, hxl, hf⟩ := DataW.trod_struct ht h
  refine ⟨hl, n, fun i f hif => ?_⟩
  have hi : i < fs.size := (Array.getElem?_eq_some_iff.1 hif).1
  have h1 := hf i f hif
  rw [List.getElem?_eq_getElem (by omega)] at h1
  exact ⟨_, h1⟩
end Go.Proofs.YtihiapjfdgoomaaW.Opened
namespace Go.Proofs.Ytihiapjfdgoomaa.A
open Go.RowKit Go.Proofs.YtihiapjfdgoomaaW.PrintWords Go.Proofs.YtihiapjfdgoomaaW.PrintLast Go.Proofs.YtihiapjfdgoomaaW.PrintMore
set_option linter.unusedVariables false
set_option linter.unusedSimpArgs false
variable {P : Program}
theorem strCells_nums (s : ByteArray) : Lib.strCells s = nums .u8 (bytesOf s) := by
  simp [Lib.strCells, nums, bytesOf, List.map_map]
theorem run_copy_string_row (w : World) (dT sT ty elem : TypeId) (g o dLen dCap : Nat) (cur : Array Value) (t : TypeId) (s : ByteArray)
    (hu : P.underlying dT = some (.slice elem)) (hs : (P.info? elem).map (·.size) = some 1)
    (hg : w.heap[g]? = some (.cells cur t (0, 0))) (hn : s.size ≤ dLen) (hfit : o + s.size ≤ cur.size) :
    (Builtin.copy_ #[dT, sT] ty #[.slice (some ⟨g, o, none⟩) dLen dCap, .string s]).run P w =
      .ok (goInt s.size) (w.setRow g (cur.toList.take o ++ Lib.strCells s ++ cur.toList.drop (o + s.size)).toArray) := by
  have hst := run_storeCells_at P g o t (Lib.strCells s) 0 cur w hg (by simpa [Lib.strCells_length] using hfit) (Lib.strCells_oneCell s)
  simp only [Nat.add_zero, Lib.strCells_length] at hst
  have hf := Lib.run_firstCells_string (P := P) w 1 s
  have hm : Nat.min s.size dLen = s.size := Nat.min_eq_left hn
  cases hq : P.info? elem with
  | none => simp [hq] at hs
  | some i =>
    have hi : i.size = 1 := by simpa [hq] using hs
    simp [Builtin.copy_, run_underlying hu, Builtin.lenOf, sizeOf, typeInfo, hq, hi, hm, hf, hst]
theorem run_copy_string_none (w : World) (dT sT ty elem : TypeId) (A : Option Addr) (dLen dCap : Nat) (s : ByteArray)
    (hu : P.underlying dT = some (.slice elem)) (hs : (P.info? elem).map (·.size) = some 1) (h0 : s.size = 0) :
    (Builtin.copy_ #[dT, sT] ty #[.slice A dLen dCap, .string s]).run P w = .ok (goInt 0) w := by
  have hc : Lib.strCells s = [] := List.eq_nil_of_length_eq_zero (by rw [Lib.strCells_length]; exact h0)
  have hf := Lib.run_firstCells_string (P := P) w 1 s
  rw [hc, h0] at hf
  have hm : Nat.min s.size dLen = 0 := by rw [h0]; exact Nat.zero_min _
  cases hq : P.info? elem with
  | none => simp [hq] at hs
  | some i =>
    have hi : i.size = 1 := by simpa [hq] using hs
    cases A <;> simp [Builtin.copy_, run_underlying hu, Builtin.lenOf, sizeOf, typeInfo, hq, hi, hm, hf, storeCells]
theorem own_nums_of_R {e : Nat} {W : World} {base : Nat} {ok : Nat → Prop} {v : Value} {xs : List Int} (h : (Kd.int .u8).R e W base ok v xs) :
    W.ownsRow base e 1 v xs.length (nums .u8 xs) := Kd.own_of_R (enc := Value.int .u8) (h1 := fun _ => rfl) h
theorem R_copy_string {ops : Array Oper} {rest : List Oper} {o : Oper} {a : Act} {Q : Exit → Act → World → Prop} {w0 W : World} (base : Nat) (hgd : o.guard = none) (s x : Operand) (t t' e : TypeId)
    (ho : o.op = .call { callee := .builtin .copy, args := #[s, x], argTypes := #[t, t'] }) (ht : P.underlying t = some (.slice e)) (hinfo : (P.info? e).map (·.size) = some 1)
    (A : Option Addr) (c : Nat) (xs : List Int) (n : Nat) (str : ByteArray) (ok : Nat → Prop) (A' : Option Addr) (m' c' : Nat) (hs : a.eval s = .slice A' m' c') (hx : a.eval x = .string str)
    (hA' : 0 < str.size → A' = A.map (·.add n)) (hm' : str.size ≤ m')
    (HO : (Kd.int .u8).R e W base ok (.slice A xs.length c) xs) (hlen : n + str.size ≤ xs.length) (HB : Below base w0 W) (hbase : base ≤ W.heap.size)
    (h : ∀ w1, (Kd.int .u8).R e w1 base ok (.slice A xs.length c) (xs.take n ++ bytesOf str ++ xs.drop (n + str.size)) → Below base w0 w1 → W.grownBy w1 (Value.slice A xs.length c).ownBlock → wpList P ops Q rest (a.put o.dst (.int .i64 (str.size : Int))) w1) :
    wpList P ops Q (o :: rest) a W := by
  have hown := own_nums_of_R HO
  have fin : ∀ w1, (Builtin.copy_ #[t, t'] o.type #[.slice A' m' c', .string str]).run P W = .ok (goInt str.size) w1 → (Kd.int .u8).R e w1 base ok (.slice A xs.length c) (xs.take n ++ bytesOf str ++ xs.drop (n + str.size)) → W.grownBy w1 (Value.slice A xs.length c).ownBlock → wpList P ops Q (o :: rest) a W := by
    intro w1 hr hrow hg
    refine wpList_plain hgd fun K hK => ?_
    unfold Oper.wp execOp
    simp only [ho, resolve, invoke, builtin, Sem.run_bind, Sem.run_pure, Result.andThen_ok, List.map_toArray, List.map_cons, List.map_nil, hs, hx, hr]
    exact hK _ _ (h w1 hrow (HB.grown hg hbase (own_base hown)) hg)
  rcases Nat.eq_zero_or_pos str.size with h0 | hp
  · have hb0 : bytesOf str = [] := List.eq_nil_of_length_eq_zero (by rw [bytesOf_length]; exact h0)
    refine fin W ?_ ?_ (World.grownBy.refl W _)
    · rw [h0]; exact run_copy_string_none W t t' o.type e _ _ _ str ht hinfo h0
    · rw [hb0, h0, List.append_nil, Nat.add_zero, List.take_append_drop]; exact HO
  · rcases hown.2 with ⟨hv, _⟩ | ⟨g, cap, cur, hv, hb, hh, hnc, hcm, hcs, htake⟩
    · injection hv; omega
    injection hv with hA _ hcc
    subst hA; subst hcc
    rw [Nat.mul_one] at hcs htake
    have ha : A' = some ⟨g, n, none⟩ := by
      rw [hA' hp]; simp [add_plain]
    have hr := run_copy_string_row (P := P) W t t' o.type e g n m' c' cur e str ht hinfo hh hm' (by omega)
    refine fin _ (by rw [ha]; exact hr) ?_ ?_
    · refine Kd.R_of_own ?_ HO.1
      have hl : (xs.take n ++ bytesOf str ++ xs.drop (n + str.size)).length = xs.length := by
        simp only [List.length_append, List.length_take, List.length_drop, bytesOf_length]; omega
      rw [hl]
      refine ⟨by rw [encs_length, hl, Nat.mul_one], .inr ⟨g, c, _, rfl, hb, setRow_heap W g cur _ e (0, 0) hh, hnc, hcm, ?_, ?_⟩⟩
      · simp only [List.size_toArray, List.length_append, List.length_take, List.length_drop, Lib.strCells_length, Array.length_toList]; omega
      · have hx : cur.toList.take xs.length = nums .u8 xs := htake
        have e1 : cur.toList.take n = nums .u8 (xs.take n) := by
          have : cur.toList.take n = (cur.toList.take xs.length).take n := by rw [List.take_take]; congr 1; omega
          rw [this, hx]; simp [nums, List.map_take]
        have e2 : (cur.toList.drop (n + str.size)).take (xs.length - (n + str.size)) = nums .u8 (xs.drop (n + str.size)) := by
          rw [← List.drop_take, hx]; simp [nums, List.map_drop]
        have e3 : encs (Value.int .u8) (xs.take n ++ bytesOf str ++ xs.drop (n + str.size)) = nums .u8 (xs.take n) ++ Lib.strCells str ++ nums .u8 (xs.drop (n + str.size)) := by
          rw [strCells_nums]; simp [encs, nums]
        rw [e3, e1, Nat.mul_one]
        have l1 : (nums .u8 (xs.take n) ++ Lib.strCells str).length = n + str.size := by
          simp only [List.length_append, nums_length, Lib.strCells_length, List.length_take]; omega
        simp only [List.toList_toArray]
        rw [List.take_append, l1, List.take_of_length_le (by rw [l1]; omega), e2]
    · exact ⟨rfl, rfl, rfl, by simp [World.setRow], fun k hk hne2 => setRow_other W g k _ (fun he => hne2 (by rw [he]; simp [Value.ownBlock]))⟩
def IsW (w0 W : World) (g : Nat) (P : Nat → Prop) (bs : List Int) : Prop :=
  ∃ v, W.heap[g]? = some (.cells #[v] 53 (0, 0)) ∧ w0.heap.size ≤ g ∧ (Kd.int .u8).R 5 W w0.heap.size P v bs
theorem info5 : (Try.prog.info? 5).map (fun i => (i.zero, i.size, i.bytes)) = some (some (.int .u8 0), 1, 1) := by kernel_rfl
theorem info5s : (Try.prog.info? 5).map (·.size) = some 1 := by kernel_rfl
theorem lay_end {P : Nat → Prop} {g : Nat} {bs : List Int} {s : ByteArray} {w0 w w1 w3 : World} {A A1 : Option Addr} {c c1 : Nat} (hg : w0.heap.size ≤ g)
    (HR : (Kd.int .u8).R 5 w w0.heap.size P (.slice A bs.length c) bs)
    (BK2 : (w1.setCell ⟨g, 0, none⟩ (.slice A1 (bs.length + s.size) c1)).heap[g]? = some (.cells (#[Value.slice A bs.length c].setIfInBounds 0 (.slice A1 (bs.length + s.size) c1)) 53))
    (HG1 : w.grownBy w1 (Value.slice A bs.length c).ownBlock)
    (HR1 : (Kd.int .u8).R 5 (w1.setCell ⟨g, 0, none⟩ (.slice A1 (bs.length + s.size) c1)) w0.heap.size (fun k => P k ∨ w.heap.size ≤ k) (.slice A1 (bs ++ List.replicate (s.size : Int).toNat 0).length c1) (bs ++ List.replicate (s.size : Int).toNat 0))
    (HR3 : (Kd.int .u8).R 5 w3 w0.heap.size (fun k => P k ∨ w.heap.size ≤ k) (.slice A1 (bs ++ List.replicate (s.size : Int).toNat 0).length c1) (List.take bs.length (bs ++ List.replicate (s.size : Int).toNat 0) ++ bytesOf s ++ List.drop (bs.length + s.size) (bs ++ List.replicate (s.size : Int).toNat 0)))
    (HB3 : Below w0.heap.size w0 w3)
    (HG3 : (w1.setCell ⟨g, 0, none⟩ (.slice A1 (bs.length + s.size) c1)).grownBy w3 (Value.slice A1 (bs ++ List.replicate (s.size : Int).toNat 0).length c1).ownBlock) :
    IsW w0 w3 g (fun k => P k ∨ w.heap.size ≤ k) (bs ++ bytesOf s) ∧ Below w0.heap.size w0 w3 ∧ Kept w w3 (fun k => P k ∨ k = g) := by
  have e1 : (bs ++ List.replicate (s.size : Int).toNat 0).length = bs.length + s.size := by simp
  have e2 : List.take bs.length (bs ++ List.replicate (s.size : Int).toNat 0) ++ bytesOf s ++ List.drop (bs.length + s.size) (bs ++ List.replicate (s.size : Int).toNat 0) = bs ++ bytesOf s := by
    simp
  have hne := Kd.R_ne HR1 BK2 (by decide)
  refine ⟨⟨_, blk_grown BK2 HG3 hne, hg, ?_⟩, HB3, ?_⟩
  · rw [e1, e2] at HR3; exact HR3
  · have k1 : Kept w w1 (fun k => P k ∨ k = g) := Kept.of_grown HG1 (Kept.refl _ _) (fun k hk => .inl (.inl (HR.1 k hk)))
    have k2 : Kept w (w1.setCell ⟨g, 0, none⟩ (.slice A1 (bs.length + s.size) c1)) (fun k => P k ∨ k = g) := k1.setCell (p := ⟨g, 0, none⟩) (.inl (.inr rfl)) _
    exact Kept.of_grown HG3 k2 (fun k hk => (HR1.1 k hk).elim (fun h => .inl (.inl h)) .inr)
theorem lay_calls (P : Nat → Prop) (g : Nat) (bs : List Int) (s : ByteArray) (w0 w : World) (hI : IsW w0 w g P bs) (hB : Below w0.heap.size w0 w)
    (hl : bs.length + s.size ≤ 140737488355328) :
    Calls Try.prog 19 #[.pointer (some ⟨g, 0, none⟩), .string s] w fun e w' => e = .returned (.tuple #[]) ∧
      IsW w0 w' g (fun k => P k ∨ w.heap.size ≤ k) (bs ++ bytesOf s) ∧ Below w0.heap.size w0 w' ∧ Kept w w' (fun k => P k ∨ k = g) := by
  obtain ⟨v, hb, hg, hR⟩ := hI
  obtain ⟨A, c, rfl, hc, hC⟩ := Kd.R_reads hR
  have hcell : w.cell? ⟨g, 0, none⟩ = some (.slice A bs.length c) := (blk_cell hb 0).trans rfl
  have hne := Kd.R_ne hR hb (by decide)
  have HB := Aside0.mk hB
  have HR := Aside0.mk hR
  have HBK := Aside0.mk hb
  have HNE := Aside0.mk hne
  clear hB hR hC hb hne
  go_enter Try.func19, Try.ntmps19
  go_wp2_with (first
    | ((with_reducible refine gate_dst (N := 17) rfl ?_); go_loud (refine Kd.R_append_zeros (Kd.int .u8) (w0 := w0) w0.heap.size rfl (.tmp 14) (.tmp 16) 32 3 5 (.int .u8 0) 1 rfl Try.underlying32 Try.underlying3 info5 rfl (by decide) (by decide) (.slice A bs.length c) bs 0 (s.size : Int) (fun k => P k ∨ w.heap.size ≤ k) rfl rfl (by rfl) (fun k hk => .inr hk) (Kd.R_mono HR.out (fun k hk => .inl hk)) (by omega) HB.out HB.out.size (by simp; omega) ?_); intro v1 w1 HR1 HB1 HG1 HD1; obtain ⟨A1, c1, hv1, hc1, _⟩ := Kd.R_reads HR1; subst hv1; simp only [List.length_append, List.length_replicate, Int.toNat_natCast] at hc1; have BK1 := blk_grown HBK.out HG1 HNE.out; have BK2 := Aside0.mk (blk_put BK1 0 (.slice A1 (bs.length + s.size) c1) rfl); have hcell1 := (blk_cell BK1 0).trans rfl; have hcell2 := (blk_cell BK2.out 0).trans rfl; have hfr1 := blk_frozen BK1 0; have HR1' := Aside0.mk (Kd.R_set HR1 BK1 (by decide) 0 (.slice A1 (bs.length + s.size) c1)); have HB1' := Aside0.mk (below_set (j := 0) (v := (.slice A1 (bs.length + s.size) c1)) HB1 hg); have HG1' := Aside0.mk HG1; clear HR1 HB1 HG1 HD1 BK1)
    | ((with_reducible refine gate_dst (N := 27) rfl ?_); go_loud (refine R_copy_string (w0 := w0) w0.heap.size rfl (.tmp 25) (.tmp 26) 32 9 5 rfl Try.underlying32 info5s A1 c1 (bs ++ List.replicate (s.size : Int).toNat 0) bs.length s (fun k => P k ∨ w.heap.size ≤ k) _ _ _ rfl rfl (by intro h0; first | rfl | omega | (rw [if_neg (by omega)])) (by omega) HR1'.out (by simp) HB1'.out HB1'.out.size ?_); intro w3 HR3 HB3 HG3; have HR3' := Aside0.mk HR3; have HB3' := Aside0.mk HB3; have HG3' := Aside0.mk HG3; clear HR3 HB3 HG3))
  all_goals
    go_end0
    exact ⟨rfl, lay_end hg HR.out BK2.out HG1'.out HR1'.out HR3'.out HB3'.out HG3'.out⟩
def be8 (n : Int) : List Int :=
  [IntKind.u64.wrap n / 72057594037927936 % 256, IntKind.u64.wrap n / 281474976710656 % 256, IntKind.u64.wrap n / 1099511627776 % 256, IntKind.u64.wrap n / 4294967296 % 256,
   IntKind.u64.wrap n / 16777216 % 256, IntKind.u64.wrap n / 65536 % 256, IntKind.u64.wrap n / 256 % 256, IntKind.u64.wrap n % 256]
theorem conv8 (w : World) (b0 b1 b2 b3 b4 b5 b6 b7 : Int) :
    (convert 32 9 (.slice (some ⟨w.heap.size, 0, none⟩) 8 8)).run Try.prog (w.alloc (.cells #[.int .u8 b0, .int .u8 b1, .int .u8 b2, .int .u8 b3, .int .u8 b4, .int .u8 b5, .int .u8 b6, .int .u8 b7] 79)) =
      .ok (.string (strOfNums [b0, b1, b2, b3, b4, b5, b6, b7])) (w.alloc (.cells #[.int .u8 b0, .int .u8 b1, .int .u8 b2, .int .u8 b3, .int .u8 b4, .int .u8 b5, .int .u8 b6, .int .u8 b7] 79)) := by
  refine string_of_reads Try.underlying32 Try.underlying5 Try.underlying9 (n := 8) ⟨rfl, by omega, fun _ => ⟨_, rfl, fun j hj => ?_⟩⟩
  have hb := heap_alloc_new w (.cells #[.int .u8 b0, .int .u8 b1, .int .u8 b2, .int .u8 b3, .int .u8 b4, .int .u8 b5, .int .u8 b6, .int .u8 b7] 79)
  rw [add_plain, blk_cell hb]
  match j, hj with
  | 0, _ | 1, _ | 2, _ | 3, _ | 4, _ | 5, _ | 6, _ | 7, _ => rfl
theorem bytesOf_strOfNums (xs : List Int) (h : ∀ x ∈ xs, 0 ≤ x ∧ x < 256) : bytesOf (strOfNums xs) = xs := by
  rw [bytesOf, strOfNums_data, List.map_map]
  conv => rhs; rw [← List.map_id xs]
  refine List.map_congr_left fun x hx => ?_
  obtain ⟨h0, h1⟩ := h x hx
  simp only [Function.comp, id]
  have : x.toNat < 256 := by omega
  rw [show (UInt8.ofNat x.toNat).toNat = x.toNat from by simp; omega]
  omega
theorem bytesOf_be8 (n : Int) : bytesOf (strOfNums (be8 n)) = be8 n := by
  refine bytesOf_strOfNums _ fun x hx => ?_
  simp only [be8, List.mem_cons, List.not_mem_nil, or_false] at hx
  rcases hx with rfl | rfl | rfl | rfl | rfl | rfl | rfl | rfl <;> omega
theorem IsW.alloc {w0 W : World} {g : Nat} {P : Nat → Prop} {bs : List Int} (h : IsW w0 W g P bs) (o : Obj) : IsW w0 (W.alloc o) g P bs := by
  obtain ⟨v, hb, hg, hR⟩ := h
  exact ⟨v, (Below.heap_alloc W o g (blk_lt hb)).trans hb, hg, Kd.R_alloc hR o⟩
theorem IsW.mono {w0 W : World} {g : Nat} {P P' : Nat → Prop} {bs : List Int} (h : IsW w0 W g P bs) (hp : ∀ k, P k → P' k) : IsW w0 W g P' bs := by
  obtain ⟨v, hb, hg, hR⟩ := h
  exact ⟨v, hb, hg, Kd.R_mono hR hp⟩
theorem kept_of_alloc {w w' : World} {o : Obj} {S : Nat → Prop} (h : Kept (w.alloc o) w' S) : Kept w w' S :=
  (Kept.of_below (below_alloc (Below.refl _ _) o) S).then_ h (fun k hk => .inl hk)
theorem number_calls (P : Nat → Prop) (g : Nat) (bs : List Int) (n : Int) (w0 w : World) (hI : IsW w0 w g P bs) (hB : Below w0.heap.size w0 w)
    (hl : bs.length + 8 ≤ 140737488355328) :
    Calls Try.prog 20 #[.pointer (some ⟨g, 0, none⟩), .int .i64 n] w fun e w' => e = .returned (.tuple #[]) ∧
      IsW w0 w' g (fun k => P k ∨ w.heap.size ≤ k) (bs ++ be8 n) ∧ Below w0.heap.size w0 w' ∧ Kept w w' (fun k => P k ∨ k = g) := by
  have HI := Aside0.mk hI
  have HB := Aside0.mk hB
  have hcv := fun b0 b1 b2 b3 b4 b5 b6 b7 => conv8 w b0 b1 b2 b3 b4 b5 b6 b7
  clear hB hI
  go_enter Try.func20, Try.ntmps20
  go_wp2_with fail
  refine wp_loop_rounds 9 ?_
  iterate 9 (rw [rounds_succ]; go_wp2_with fail)
  refine (lay_calls P g bs (strOfNums (be8 n)) w0 _ (HI.out.alloc _) (below_alloc HB.out _) ?_).mono ?_
  · rw [← bytesOf_length, bytesOf_be8]; exact hl
  rintro e w' ⟨rfl, hI', hB', hK'⟩
  rw [bytesOf_be8] at hI'
  go_wp2
  go_end0
  exact ⟨rfl, hI'.mono (fun k hk => hk.imp id (fun h => by simp at h; omega)), hB', kept_of_alloc hK'⟩
theorem truth_calls (P : Nat → Prop) (g : Nat) (bs : List Int) (t : Bool) (w0 w : World) (hI : IsW w0 w g P bs) (hB : Below w0.heap.size w0 w)
    (hl : bs.length + 1 ≤ 140737488355328) :
    Calls Try.prog 21 #[.pointer (some ⟨g, 0, none⟩), .bool t] w fun e w' => e = .returned (.tuple #[]) ∧
      IsW w0 w' g (fun k => P k ∨ w.heap.size ≤ k) (bs ++ [if t then 1 else 0]) ∧ Below w0.heap.size w0 w' ∧ Kept w w' (fun k => P k ∨ k = g) := by
  have HI := Aside0.mk hI
  have HB := Aside0.mk hB
  clear hB hI
  cases t with
  | true =>
    go_enter Try.func21, Try.ntmps21
    go_wp2_with (go_at_call 19; go_loud (refine (lay_calls P g bs ⟨#[1]⟩ w0 _ HI.out HB.out hl).mono ?_); rintro e w' ⟨rfl, hI', hB', hK'⟩; have HI' := Aside0.mk hI'; have HB' := Aside0.mk hB'; have HK' := Aside0.mk hK'; clear hI' hB' hK')
    refine bodyPost_ret (results_none rfl _ _ _) rfl ?_
    exact ⟨rfl, HI'.out, HB'.out, HK'.out⟩
  | false =>
    go_enter Try.func21, Try.ntmps21
    go_wp2_with (go_at_call 19; go_loud (refine (lay_calls P g bs ⟨#[0]⟩ w0 _ HI.out HB.out hl).mono ?_); rintro e w' ⟨rfl, hI', hB', hK'⟩; have HI' := Aside0.mk hI'; have HB' := Aside0.mk hB'; have HK' := Aside0.mk hK'; clear hI' hB' hK')
    go_end0
    exact ⟨rfl, HI'.out, HB'.out, HK'.out⟩
theorem text_calls (P : Nat → Prop) (g : Nat) (bs : List Int) (s : ByteArray) (w0 w : World) (hI : IsW w0 w g P bs) (hB : Below w0.heap.size w0 w)
    (hl : bs.length + 8 + s.size ≤ 140737488355328) :
    Calls Try.prog 38 #[.pointer (some ⟨g, 0, none⟩), .string s] w fun e w' => e = .returned (.tuple #[]) ∧
      IsW w0 w' g (fun k => P k ∨ w.heap.size ≤ k) (bs ++ (be8 s.size ++ bytesOf s)) ∧ Below w0.heap.size w0 w' ∧ Kept w w' (fun k => P k ∨ k = g) := by
  have HI := Aside0.mk hI
  have HB := Aside0.mk hB
  clear hB hI
  go_enter Try.func38, Try.ntmps38
  go_wp2_with (first
    | (go_at_call 20; refine (number_calls P g bs _ w0 _ HI.out HB.out (by omega)).mono ?_; rintro e w1 ⟨rfl, hI', hB', hK'⟩; have HI' := Aside0.mk hI'; have HB' := Aside0.mk hB'; have HK' := Aside0.mk hK'; clear hI' hB' hK')
    | (go_at_call 19; refine (lay_calls _ g _ _ w0 _ HI'.out HB'.out (by simp [be8]; omega)).mono ?_; rintro e w2 ⟨rfl, hI', hB', hK'⟩; have HI2 := Aside0.mk hI'; have HB2 := Aside0.mk hB'; have HK2 := Aside0.mk hK'; clear hI' hB' hK'))
  go_end0
  refine ⟨rfl, ?_, HB2.out, ?_⟩
  · rw [← List.append_assoc]
    exact HI2.out.mono (fun k hk => hk.elim id (fun h => .inr (Nat.le_trans HK'.out.1 h)))
  · exact HK'.out.then_ HK2.out (fun k hk => hk.elim (fun h => h.elim (fun h => .inl (.inl h)) .inr) (fun h => .inl (.inr h)))
def IsB (w0 W : World) (g : Nat) (bs : List Int) : Prop := IsW w0 W g (fun _ => True) bs
def KT (w w' : World) (g : Nat) : Prop := w.heap.size ≤ w'.heap.size ∧ ∀ i o, w.heap[i]? = some o → i ≠ g → (∀ cs, o ≠ .cells cs 5 (0, 0)) → w'.heap[i]? = some o
theorem KT.refl (w : World) (g : Nat) : KT w w g := ⟨Nat.le_refl _, fun _ _ h _ _ => h⟩
theorem KT.trans {w w1 w2 : World} {g : Nat} (h : KT w w1 g) (k : KT w1 w2 g) : KT w w2 g := ⟨Nat.le_trans h.1 k.1, fun i o ho hi ht => k.2 i o (h.2 i o ho hi ht) hi ht⟩
theorem KT.below {w w1 : World} (h : Below w.heap.size w w1) (g : Nat) : KT w w1 g := ⟨h.size, fun i o ho _ _ => (h.block i (blk_lt ho)).trans ho⟩
theorem KT.alloc {w w1 : World} {g : Nat} (h : KT w w1 g) (o : Obj) : KT w (w1.alloc o) g := h.trans (KT.below (below_alloc (Below.refl _ _) o) g)
theorem KT.blk {w w1 : World} {g b t : Nat} {cs : Array Value} (h : KT w w1 g) (hb : w.heap[b]? = some (.cells cs t (0, 0))) (hg : b ≠ g) (ht : t ≠ 5) : w1.heap[b]? = some (.cells cs t (0, 0)) :=
  h.2 b _ hb hg (fun cs' e => by injection e with _ e; exact ht e)
theorem IsB.typed {w0 W : World} {g : Nat} {bs : List Int} (h : IsB w0 W g bs) : IsW w0 W g (fun k => ∃ cs, W.heap[k]? = some (.cells cs 5 (0, 0))) bs := by
  obtain ⟨v, hb, hg, hR⟩ := h
  refine ⟨v, hb, hg, Kd.R_mono (Kd.R_bound hR) (fun k hk => ?_)⟩
  obtain ⟨_, _, _, q, hq, cs, hc⟩ := hk
  have : q = 5 := by simpa [Kd.int, Kd.scalar] using hq
  exact ⟨cs, this ▸ hc⟩
theorem KT.of {w w' : World} {g : Nat} (h : Kept w w' (fun k => (∃ cs, w.heap[k]? = some (.cells cs 5 (0, 0))) ∨ k = g)) : KT w w' g :=
  ⟨h.1, fun i o ho hi ht => (h.2 i (blk_lt ho) (fun hs => hs.elim (fun ⟨cs, hc⟩ => by rw [ho] at hc; injection hc with hc; exact ht cs hc) hi)).trans ho⟩
theorem IsB.of {w0 W : World} {g : Nat} {P : Nat → Prop} {bs : List Int} (h : IsW w0 W g P bs) : IsB w0 W g bs := h.mono (fun _ _ => trivial)
theorem IsB.alloc {w0 W : World} {g : Nat} {bs : List Int} (h : IsB w0 W g bs) (o : Obj) : IsB w0 (W.alloc o) g bs := IsW.alloc h o
theorem IsB.lt {w0 W : World} {g : Nat} {bs : List Int} (h : IsB w0 W g bs) : g < W.heap.size := by
  obtain ⟨v, hb, _, _⟩ := h
  exact blk_lt hb
theorem IsB.below {w0 W W1 : World} {g : Nat} {bs : List Int} (h : IsB w0 W g bs) (hb : Below W.heap.size W W1) : IsB w0 W1 g bs := by
  obtain ⟨v, hbk, hg, hR⟩ := h
  exact ⟨v, (hb.block g (blk_lt hbk)).trans hbk, hg, Kd.R_below hR hb⟩
theorem number_T (g : Nat) (bs : List Int) (n : Int) (w0 w : World) (hI : IsB w0 w g bs) (hB : Below w0.heap.size w0 w) (hl : bs.length + 8 ≤ 140737488355328) :
    Calls Try.prog 20 #[.pointer (some ⟨g, 0, none⟩), .int .i64 n] w fun e w' => e = .returned (.tuple #[]) ∧ IsB w0 w' g (bs ++ be8 n) ∧ Below w0.heap.size w0 w' ∧ KT w w' g :=
  (number_calls _ g bs n w0 w hI.typed hB hl).mono fun _ _ ⟨h1, h2, h3, h4⟩ => ⟨h1, IsB.of h2, h3, KT.of h4⟩
theorem truth_T (g : Nat) (bs : List Int) (t : Bool) (w0 w : World) (hI : IsB w0 w g bs) (hB : Below w0.heap.size w0 w) (hl : bs.length + 1 ≤ 140737488355328) :
    Calls Try.prog 21 #[.pointer (some ⟨g, 0, none⟩), .bool t] w fun e w' => e = .returned (.tuple #[]) ∧ IsB w0 w' g (bs ++ [if t then 1 else 0]) ∧ Below w0.heap.size w0 w' ∧ KT w w' g :=
  (truth_calls _ g bs t w0 w hI.typed hB hl).mono fun _ _ ⟨h1, h2, h3, h4⟩ => ⟨h1, IsB.of h2, h3, KT.of h4⟩
theorem text_T (g : Nat) (bs : List Int) (s : ByteArray) (w0 w : World) (hI : IsB w0 w g bs) (hB : Below w0.heap.size w0 w) (hl : bs.length + 8 + s.size ≤ 140737488355328) :
    Calls Try.prog 38 #[.pointer (some ⟨g, 0, none⟩), .string s] w fun e w' => e = .returned (.tuple #[]) ∧ IsB w0 w' g (bs ++ (be8 s.size ++ bytesOf s)) ∧ Below w0.heap.size w0 w' ∧ KT w w' g :=
  (text_calls _ g bs s w0 w hI.typed hB hl).mono fun _ _ ⟨h1, h2, h3, h4⟩ => ⟨h1, IsB.of h2, h3, KT.of h4⟩
theorem lay_T (g : Nat) (bs : List Int) (s : ByteArray) (w0 w : World) (hI : IsB w0 w g bs) (hB : Below w0.heap.size w0 w) (hl : bs.length + s.size ≤ 140737488355328) :
    Calls Try.prog 19 #[.pointer (some ⟨g, 0, none⟩), .string s] w fun e w' => e = .returned (.tuple #[]) ∧ IsB w0 w' g (bs ++ bytesOf s) ∧ Below w0.heap.size w0 w' ∧ KT w w' g :=
  (lay_calls _ g bs s w0 w hI.typed hB hl).mono fun _ _ ⟨h1, h2, h3, h4⟩ => ⟨h1, IsB.of h2, h3, KT.of h4⟩
theorem numbers_calls (x0 x1 : Int) (x2 : ByteArray) (x3 x4 x5 x6 x7 x8 x9 : Int) (w : World) :
    Calls Try.prog 37 #[.agg #[.int .i64 x0, .int .i64 x1, .string x2, .int .i64 x3, .int .i64 x4, .int .i64 x5, .int .i64 x6, .int .i64 x7, .int .i64 x8, .int .i64 x9]] w fun e w' =>
      e = .returned (.agg #[.int .i64 x0, .int .i64 x1, .int .i64 x3, .int .i64 x4, .int .i64 x5, .int .i64 x6, .int .i64 x7, .int .i64 x8, .int .i64 x9]) ∧ Below w.heap.size w w' := by
  go_enter Try.func37, Try.ntmps37
  go_wp2
  refine bodyPost_ret (v := .agg #[.int .i64 x0, .int .i64 x1, .int .i64 x3, .int .i64 x4, .int .i64 x5, .int .i64 x6, .int .i64 x7, .int .i64 x8, .int .i64 x9]) (by simp [results, Try.results37, go_sem]) rfl ⟨rfl, ?_⟩
  repeat (first | exact Below.refl _ _ | apply below_alloc)
def boxBytes (x0 x1 : Int) (x2 : ByteArray) (x3 x4 x5 x6 x7 x8 x9 : Int) : List Int :=
  be8 x0 ++ (be8 x1 ++ ((be8 x2.size ++ bytesOf x2) ++ (be8 x3 ++ (be8 x4 ++ (be8 x5 ++ (be8 x6 ++ (be8 x7 ++ (be8 x8 ++ be8 x9))))))))
theorem box_T (g : Nat) (bs : List Int) (x0 x1 : Int) (x2 : ByteArray) (x3 x4 x5 x6 x7 x8 x9 : Int) (w0 w : World) (hI : IsB w0 w g bs) (hB : Below w0.heap.size w0 w)
    (hl : bs.length + 80 + x2.size ≤ 140737488355328) :
    Calls Try.prog 22 #[.pointer (some ⟨g, 0, none⟩), .agg #[.int .i64 x0, .int .i64 x1, .string x2, .int .i64 x3, .int .i64 x4, .int .i64 x5, .int .i64 x6, .int .i64 x7, .int .i64 x8, .int .i64 x9]] w fun e w' =>
      e = .returned (.tuple #[]) ∧ IsB w0 w' g (bs ++ boxBytes x0 x1 x2 x3 x4 x5 x6 x7 x8 x9) ∧ Below w0.heap.size w0 w' ∧ KT w w' g := by
  have HI := Aside0.mk hI
  have HB := Aside0.mk hB
  have HL := Aside0.mk hl
  clear hB hI hl
  have hgw : g < w.heap.size := HI.out.lt
  go_enter Try.func22, Try.ntmps22
  go_wp2_with fail
  refine (numbers_calls _ _ _ _ _ _ _ _ _ _ _).mono ?_
  rintro e w1 ⟨rfl, hb⟩
  have HI1 := (HI.out.alloc _).below hb
  have HB1 := (below_alloc HB.out _).trans (hb.mono (by simpa using Nat.le_succ_of_le HB.out.size))
  have hs1 : w.heap.size + 1 ≤ w1.heap.size := by have := hb.size; simpa using this
  have k1 : w1.heap[w.heap.size]? = some (.cells #[.int .i64 x0, .int .i64 x1, .string x2, .int .i64 x3, .int .i64 x4, .int .i64 x5, .int .i64 x6, .int .i64 x7, .int .i64 x8, .int .i64 x9] 50 (0, 0)) := (hb.block _ (by simp)).trans (heap_alloc_new w _)
  have KK1 : KT w w1 g := (KT.below (below_alloc (Below.refl _ _) _) g).trans (KT.below hb g)
  have H0 := Aside0.mk (And.intro (HI1.alloc (.cells #[.int .i64 x0, .int .i64 x1, .int .i64 x3, .int .i64 x4, .int .i64 x5, .int .i64 x6, .int .i64 x7, .int .i64 x8, .int .i64 x9] 80)) (And.intro (below_alloc HB1 (.cells #[.int .i64 x0, .int .i64 x1, .int .i64 x3, .int .i64 x4, .int .i64 x5, .int .i64 x6, .int .i64 x7, .int .i64 x8, .int .i64 x9] 80)) (And.intro (KK1.alloc (.cells #[.int .i64 x0, .int .i64 x1, .int .i64 x3, .int .i64 x4, .int .i64 x5, .int .i64 x6, .int .i64 x7, .int .i64 x8, .int .i64 x9] 80)) (And.intro ((Below.heap_alloc w1 (.cells #[.int .i64 x0, .int .i64 x1, .int .i64 x3, .int .i64 x4, .int .i64 x5, .int .i64 x6, .int .i64 x7, .int .i64 x8, .int .i64 x9] 80) _ (by omega)).trans k1) (heap_alloc_new w1 (.cells #[.int .i64 x0, .int .i64 x1, .int .i64 x3, .int .i64 x4, .int .i64 x5, .int .i64 x6, .int .i64 x7, .int .i64 x8, .int .i64 x9] 80))))))
  have hne1 : w.heap.size ≠ g := by omega
  have hne2 : w1.heap.size ≠ g := by omega
  clear HI1 HB1 k1 KK1 hb HI HB
  have hc1 := blk_cell H0.out.2.2.2.1
  have hc2 := blk_cell H0.out.2.2.2.2
  go_wp2_with fail
  refine (number_T g _ x0 w0 _ H0.out.1 H0.out.2.1 (by have := HL.out; first | omega | (simp only [List.length_append, be8, List.length_cons, List.length_nil, bytesOf_length]; omega))).mono ?_
  rintro e W1 ⟨rfl, hI, hB, hK⟩
  have H1 := Aside0.mk (And.intro hI (And.intro hB (And.intro (H0.out.2.2.1.trans hK) (And.intro (hK.blk H0.out.2.2.2.1 hne1 (by decide)) (hK.blk H0.out.2.2.2.2 hne2 (by decide))))))
  clear hI hB hK H0 hc1 hc2
  have hc1 := blk_cell H1.out.2.2.2.1
  have hc2 := blk_cell H1.out.2.2.2.2
  go_wp2_with fail
  refine (number_T g _ x1 w0 _ H1.out.1 H1.out.2.1 (by have := HL.out; first | omega | (simp only [List.length_append, be8, List.length_cons, List.length_nil, bytesOf_length]; omega))).mono ?_
  rintro e W2 ⟨rfl, hI, hB, hK⟩
  have H2 := Aside0.mk (And.intro hI (And.intro hB (And.intro (H1.out.2.2.1.trans hK) (And.intro (hK.blk H1.out.2.2.2.1 hne1 (by decide)) (hK.blk H1.out.2.2.2.2 hne2 (by decide))))))
  clear hI hB hK H1 hc1 hc2
  have hc1 := blk_cell H2.out.2.2.2.1
  have hc2 := blk_cell H2.out.2.2.2.2
  go_wp2_with fail
  refine (text_T g _ x2 w0 _ H2.out.1 H2.out.2.1 (by have := HL.out; first | omega | (simp only [List.length_append, be8, List.length_cons, List.length_nil, bytesOf_length]; omega))).mono ?_
  rintro e W3 ⟨rfl, hI, hB, hK⟩
  have H3 := Aside0.mk (And.intro hI (And.intro hB (And.intro (H2.out.2.2.1.trans hK) (And.intro (hK.blk H2.out.2.2.2.1 hne1 (by decide)) (hK.blk H2.out.2.2.2.2 hne2 (by decide))))))
  clear hI hB hK H2 hc1 hc2
  go_wp2_with fail
  refine wp_loop_rounds 8 ?_
  rw [rounds_succ]
  have hc1 := blk_cell H3.out.2.2.2.1
  have hc2 := blk_cell H3.out.2.2.2.2
  go_wp2_with fail
  refine (number_T g _ x3 w0 _ H3.out.1 H3.out.2.1 (by have := HL.out; first | omega | (simp only [List.length_append, be8, List.length_cons, List.length_nil, bytesOf_length]; omega))).mono ?_
  rintro e W4 ⟨rfl, hI, hB, hK⟩
  have H4 := Aside0.mk (And.intro hI (And.intro hB (And.intro (H3.out.2.2.1.trans hK) (And.intro (hK.blk H3.out.2.2.2.1 hne1 (by decide)) (hK.blk H3.out.2.2.2.2 hne2 (by decide))))))
  clear hI hB hK H3 hc1 hc2
  go_wp2_with fail
  rw [rounds_succ]
  have hc1 := blk_cell H4.out.2.2.2.1
  have hc2 := blk_cell H4.out.2.2.2.2
  go_wp2_with fail
  refine (number_T g _ x4 w0 _ H4.out.1 H4.out.2.1 (by have := HL.out; first | omega | (simp only [List.length_append, be8, List.length_cons, List.length_nil, bytesOf_length]; omega))).mono ?_
  rintro e W5 ⟨rfl, hI, hB, hK⟩
  have H5 := Aside0.mk (And.intro hI (And.intro hB (And.intro (H4.out.2.2.1.trans hK) (And.intro (hK.blk H4.out.2.2.2.1 hne1 (by decide)) (hK.blk H4.out.2.2.2.2 hne2 (by decide))))))
  clear hI hB hK H4 hc1 hc2
  go_wp2_with fail
  rw [rounds_succ]
  have hc1 := blk_cell H5.out.2.2.2.1
  have hc2 := blk_cell H5.out.2.2.2.2
  go_wp2_with fail
  refine (number_T g _ x5 w0 _ H5.out.1 H5.out.2.1 (by have := HL.out; first | omega | (simp only [List.length_append, be8, List.length_cons, List.length_nil, bytesOf_length]; omega))).mono ?_
  rintro e W6 ⟨rfl, hI, hB, hK⟩
  have H6 := Aside0.mk (And.intro hI (And.intro hB (And.intro (H5.out.2.2.1.trans hK) (And.intro (hK.blk H5.out.2.2.2.1 hne1 (by decide)) (hK.blk H5.out.2.2.2.2 hne2 (by decide))))))
  clear hI hB hK H5 hc1 hc2
  go_wp2_with fail
  rw [rounds_succ]
  have hc1 := blk_cell H6.out.2.2.2.1
  have hc2 := blk_cell H6.out.2.2.2.2
  go_wp2_with fail
  refine (number_T g _ x6 w0 _ H6.out.1 H6.out.2.1 (by have := HL.out; first | omega | (simp only [List.length_append, be8, List.length_cons, List.length_nil, bytesOf_length]; omega))).mono ?_
  rintro e W7 ⟨rfl, hI, hB, hK⟩
  have H7 := Aside0.mk (And.intro hI (And.intro hB (And.intro (H6.out.2.2.1.trans hK) (And.intro (hK.blk H6.out.2.2.2.1 hne1 (by decide)) (hK.blk H6.out.2.2.2.2 hne2 (by decide))))))
  clear hI hB hK H6 hc1 hc2
  go_wp2_with fail
  rw [rounds_succ]
  have hc1 := blk_cell H7.out.2.2.2.1
  have hc2 := blk_cell H7.out.2.2.2.2
  go_wp2_with fail
  refine (number_T g _ x7 w0 _ H7.out.1 H7.out.2.1 (by have := HL.out; first | omega | (simp only [List.length_append, be8, List.length_cons, List.length_nil, bytesOf_length]; omega))).mono ?_
  rintro e W8 ⟨rfl, hI, hB, hK⟩
  have H8 := Aside0.mk (And.intro hI (And.intro hB (And.intro (H7.out.2.2.1.trans hK) (And.intro (hK.blk H7.out.2.2.2.1 hne1 (by decide)) (hK.blk H7.out.2.2.2.2 hne2 (by decide))))))
  clear hI hB hK H7 hc1 hc2
  go_wp2_with fail
  rw [rounds_succ]
  have hc1 := blk_cell H8.out.2.2.2.1
  have hc2 := blk_cell H8.out.2.2.2.2
  go_wp2_with fail
  refine (number_T g _ x8 w0 _ H8.out.1 H8.out.2.1 (by have := HL.out; first | omega | (simp only [List.length_append, be8, List.length_cons, List.length_nil, bytesOf_length]; omega))).mono ?_
  rintro e W9 ⟨rfl, hI, hB, hK⟩
  have H9 := Aside0.mk (And.intro hI (And.intro hB (And.intro (H8.out.2.2.1.trans hK) (And.intro (hK.blk H8.out.2.2.2.1 hne1 (by decide)) (hK.blk H8.out.2.2.2.2 hne2 (by decide))))))
  clear hI hB hK H8 hc1 hc2
  go_wp2_with fail
  rw [rounds_succ]
  have hc1 := blk_cell H9.out.2.2.2.1
  have hc2 := blk_cell H9.out.2.2.2.2
  go_wp2_with fail
  refine (number_T g _ x9 w0 _ H9.out.1 H9.out.2.1 (by have := HL.out; first | omega | (simp only [List.length_append, be8, List.length_cons, List.length_nil, bytesOf_length]; omega))).mono ?_
  rintro e W10 ⟨rfl, hI, hB, hK⟩
  have H10 := Aside0.mk (And.intro hI (And.intro hB (And.intro (H9.out.2.2.1.trans hK) (And.intro (hK.blk H9.out.2.2.2.1 hne1 (by decide)) (hK.blk H9.out.2.2.2.2 hne2 (by decide))))))
  clear hI hB hK H9 hc1 hc2
  go_wp2_with fail
  rw [rounds_succ]
  go_wp2_with fail
  go_end0
  refine ⟨rfl, ?_, H10.out.2.1, H10.out.2.2.1⟩
  have h := H10.out.1
  simp only [List.append_assoc] at h
  simpa only [boxBytes, List.append_assoc] using h
end Go.Proofs.Ytihiapjfdgoomaa.A
namespace Go.Proofs.Ytihiapjfdgoomaa.P
open Go.RowKit Go.Proofs.YtihiapjfdgoomaaW.PrintWords Go.Proofs.YtihiapjfdgoomaaW.PrintLast Go.Proofs.YtihiapjfdgoomaaW.PrintMore
attribute [local go_sem] max2_int min2_int max_two min_two max_three min_three max_four min_four   -- for this text's walks alone
set_option linter.unusedVariables false
set_option linter.unusedSimpArgs false
def errW : Option Int → Value
  | none => .nilIface
  | some c => .iface 0 (.int .i64 c)
theorem errW_none : errW none = .nilIface := rfl
theorem errW_some (c : Int) : errW (some c) = .iface 0 (.int .i64 c) := rfl
theorem info3 : (Try.prog.info? 3).map (fun i => (i.zero, i.size, i.bytes)) = some (some (.int .i64 0), 1, 8) := by kernel_rfl
theorem info5 : (Try.prog.info? 5).map (fun i => (i.zero, i.size, i.bytes)) = some (some (.int .u8 0), 1, 1) := by kernel_rfl
theorem info48 : (Try.prog.info? 48).map (fun i => (i.zero, i.size, i.bytes)) = some (some (.agg #[(.int .i64 0), (.bool false), (.bool false), (.slice none 0 0)]), 4, 40) := by kernel_rfl
theorem info50 : (Try.prog.info? 50).map (fun i => (i.zero, i.size, i.bytes)) = some (some (.agg #[(.int .i64 0), (.int .i64 0), (.string ⟨#[]⟩), (.int .i64 0), (.int .i64 0), (.int .i64 0), (.int .i64 0), (.int .i64 0), (.int .i64 0), (.int .i64 0)]), 10, 88) := by kernel_rfl
-- the values' own types
structure S50 where
  f0 : Int
  f1 : Int
  f2 : ByteArray
  f3 : Int
  f4 : Int
  f5 : Int
  f6 : Int
  f7 : Int
  f8 : Int
  f9 : Int
def z50 : S50 := ⟨(0 : Int), (0 : Int), (⟨#[]⟩ : ByteArray), (0 : Int), (0 : Int), (0 : Int), (0 : Int), (0 : Int), (0 : Int), (0 : Int)⟩
def k50 : Kd S50 := Kd.iso (Kd.pair (Kd.int .i64) (Kd.pair (Kd.int .i64) (Kd.pair Kd.string (Kd.pair (Kd.int .i64) (Kd.pair (Kd.int .i64) (Kd.pair (Kd.int .i64) (Kd.pair (Kd.int .i64) (Kd.pair (Kd.int .i64) (Kd.pair (Kd.int .i64) (Kd.int .i64)))))))))) (fun x : S50 => (x.f0, x.f1, x.f2, x.f3, x.f4, x.f5, x.f6, x.f7, x.f8, x.f9))
theorem k50_heap : Kd.Heap k50 := Kd.heap_iso _ (Kd.heap_pair (Kd.heap_int .i64) (Kd.heap_pair (Kd.heap_int .i64) (Kd.heap_pair Kd.heap_string (Kd.heap_pair (Kd.heap_int .i64) (Kd.heap_pair (Kd.heap_int .i64) (Kd.heap_pair (Kd.heap_int .i64) (Kd.heap_pair (Kd.heap_int .i64) (Kd.heap_pair (Kd.heap_int .i64) (Kd.heap_pair (Kd.heap_int .i64) (Kd.heap_int .i64))))))))))
theorem k50_open {w : World} {x : S50} {cs : List Value} (h : k50.K w x cs) : cs = [.int .i64 x.f0, .int .i64 x.f1, .string x.f2, .int .i64 x.f3, .int .i64 x.f4, .int .i64 x.f5, .int .i64 x.f6, .int .i64 x.f7, .int .i64 x.f8, .int .i64 x.f9] := by
  obtain ⟨_, _, rfl, rfl, ⟨_, _, rfl, rfl, ⟨_, _, rfl, rfl, ⟨_, _, rfl, rfl, ⟨_, _, rfl, rfl, ⟨_, _, rfl, rfl, ⟨_, _, rfl, rfl, ⟨_, _, rfl, rfl, ⟨_, _, rfl, rfl, rfl⟩⟩⟩⟩⟩⟩⟩⟩⟩ := h
  exact rfl
theorem k50_openM {w : World} {base : Nat} {ok : Nat → Prop} {x : S50} {cs : List Value} (h : k50.M w base ok x cs) : cs = [.int .i64 x.f0, .int .i64 x.f1, .string x.f2, .int .i64 x.f3, .int .i64 x.f4, .int .i64 x.f5, .int .i64 x.f6, .int .i64 x.f7, .int .i64 x.f8, .int .i64 x.f9] := by
  obtain ⟨_, _, rfl, rfl, ⟨_, _, rfl, rfl, ⟨_, _, rfl, rfl, ⟨_, _, rfl, rfl, ⟨_, _, rfl, rfl, ⟨_, _, rfl, rfl, ⟨_, _, rfl, rfl, ⟨_, _, rfl, rfl, ⟨_, _, rfl, rfl, rfl⟩⟩⟩⟩⟩⟩⟩⟩⟩ := h
  exact rfl
theorem k50_mk (w : World) (x : S50)  : k50.K w x [.int .i64 x.f0, .int .i64 x.f1, .string x.f2, .int .i64 x.f3, .int .i64 x.f4, .int .i64 x.f5, .int .i64 x.f6, .int .i64 x.f7, .int .i64 x.f8, .int .i64 x.f9] := ⟨[.int .i64 x.f0], [.int .i64 x.f1, .string x.f2, .int .i64 x.f3, .int .i64 x.f4, .int .i64 x.f5, .int .i64 x.f6, .int .i64 x.f7, .int .i64 x.f8, .int .i64 x.f9], rfl, rfl, ⟨[.int .i64 x.f1], [.string x.f2, .int .i64 x.f3, .int .i64 x.f4, .int .i64 x.f5, .int .i64 x.f6, .int .i64 x.f7, .int .i64 x.f8, .int .i64 x.f9], rfl, rfl, ⟨[.string x.f2], [.int .i64 x.f3, .int .i64 x.f4, .int .i64 x.f5, .int .i64 x.f6, .int .i64 x.f7, .int .i64 x.f8, .int .i64 x.f9], rfl, rfl, ⟨[.int .i64 x.f3], [.int .i64 x.f4, .int .i64 x.f5, .int .i64 x.f6, .int .i64 x.f7, .int .i64 x.f8, .int .i64 x.f9], rfl, rfl, ⟨[.int .i64 x.f4], [.int .i64 x.f5, .int .i64 x.f6, .int .i64 x.f7, .int .i64 x.f8, .int .i64 x.f9], rfl, rfl, ⟨[.int .i64 x.f5], [.int .i64 x.f6, .int .i64 x.f7, .int .i64 x.f8, .int .i64 x.f9], rfl, rfl, ⟨[.int .i64 x.f6], [.int .i64 x.f7, .int .i64 x.f8, .int .i64 x.f9], rfl, rfl, ⟨[.int .i64 x.f7], [.int .i64 x.f8, .int .i64 x.f9], rfl, rfl, ⟨[.int .i64 x.f8], [.int .i64 x.f9], rfl, rfl, rfl⟩⟩⟩⟩⟩⟩⟩⟩⟩
theorem k50_mkM (w : World) (base : Nat) (ok : Nat → Prop) (x : S50)  : k50.M w base ok x [.int .i64 x.f0, .int .i64 x.f1, .string x.f2, .int .i64 x.f3, .int .i64 x.f4, .int .i64 x.f5, .int .i64 x.f6, .int .i64 x.f7, .int .i64 x.f8, .int .i64 x.f9] := ⟨[.int .i64 x.f0], [.int .i64 x.f1, .string x.f2, .int .i64 x.f3, .int .i64 x.f4, .int .i64 x.f5, .int .i64 x.f6, .int .i64 x.f7, .int .i64 x.f8, .int .i64 x.f9], rfl, rfl, ⟨[.int .i64 x.f1], [.string x.f2, .int .i64 x.f3, .int .i64 x.f4, .int .i64 x.f5, .int .i64 x.f6, .int .i64 x.f7, .int .i64 x.f8, .int .i64 x.f9], rfl, rfl, ⟨[.string x.f2], [.int .i64 x.f3, .int .i64 x.f4, .int .i64 x.f5, .int .i64 x.f6, .int .i64 x.f7, .int .i64 x.f8, .int .i64 x.f9], rfl, rfl, ⟨[.int .i64 x.f3], [.int .i64 x.f4, .int .i64 x.f5, .int .i64 x.f6, .int .i64 x.f7, .int .i64 x.f8, .int .i64 x.f9], rfl, rfl, ⟨[.int .i64 x.f4], [.int .i64 x.f5, .int .i64 x.f6, .int .i64 x.f7, .int .i64 x.f8, .int .i64 x.f9], rfl, rfl, ⟨[.int .i64 x.f5], [.int .i64 x.f6, .int .i64 x.f7, .int .i64 x.f8, .int .i64 x.f9], rfl, rfl, ⟨[.int .i64 x.f6], [.int .i64 x.f7, .int .i64 x.f8, .int .i64 x.f9], rfl, rfl, ⟨[.int .i64 x.f7], [.int .i64 x.f8, .int .i64 x.f9], rfl, rfl, ⟨[.int .i64 x.f8], [.int .i64 x.f9], rfl, rfl, rfl⟩⟩⟩⟩⟩⟩⟩⟩⟩
def rd_T50 (xs : List S50) (i : Int) : S50 := xs.getD i.toNat z50
theorem at_T50 {w : World} {A : Option Addr} {n : Nat} {xs : List S50} (h : Kd.C k50 w A n xs) (i : Int) (h0 : 0 ≤ i) (h1 : i < n) : ∃ ad , A = some ad ∧ w.cell? (ad.add (i.toNat * 10)) = some (.int .i64 (rd_T50 xs i).f0) ∧ w.cell? ⟨(ad.add (i.toNat * 10)).block, (ad.add (i.toNat * 10)).off + 1, none⟩ = some (.int .i64 (rd_T50 xs i).f1) ∧ w.cell? ⟨(ad.add (i.toNat * 10)).block, (ad.add (i.toNat * 10)).off + 2, none⟩ = some (.string (rd_T50 xs i).f2) ∧ w.cell? ⟨(ad.add (i.toNat * 10)).block, (ad.add (i.toNat * 10)).off + 3, none⟩ = some (.int .i64 (rd_T50 xs i).f3) ∧ w.cell? ⟨(ad.add (i.toNat * 10)).block, (ad.add (i.toNat * 10)).off + 4, none⟩ = some (.int .i64 (rd_T50 xs i).f4) ∧ w.cell? ⟨(ad.add (i.toNat * 10)).block, (ad.add (i.toNat * 10)).off + 5, none⟩ = some (.int .i64 (rd_T50 xs i).f5) ∧ w.cell? ⟨(ad.add (i.toNat * 10)).block, (ad.add (i.toNat * 10)).off + 6, none⟩ = some (.int .i64 (rd_T50 xs i).f6) ∧ w.cell? ⟨(ad.add (i.toNat * 10)).block, (ad.add (i.toNat * 10)).off + 7, none⟩ = some (.int .i64 (rd_T50 xs i).f7) ∧ w.cell? ⟨(ad.add (i.toNat * 10)).block, (ad.add (i.toNat * 10)).off + 8, none⟩ = some (.int .i64 (rd_T50 xs i).f8) ∧ w.cell? ⟨(ad.add (i.toNat * 10)).block, (ad.add (i.toNat * 10)).off + 9, none⟩ = some (.int .i64 (rd_T50 xs i).f9) := by
  obtain ⟨ad, c, e, _, hK, hc0⟩ := Kd.C_get h z50 i h0 h1
  have hc : ∀ j u, c[j]? = some u → w.cell? (ad.add (i.toNat * 10 + j)) = some u := hc0
  obtain rfl := k50_open hK
  exact ⟨ad, e, hc 0 _ rfl, by rw [← add_field _ _ 1 (by omega)]; exact hc 1 _ rfl, by rw [← add_field _ _ 2 (by omega)]; exact hc 2 _ rfl, by rw [← add_field _ _ 3 (by omega)]; exact hc 3 _ rfl, by rw [← add_field _ _ 4 (by omega)]; exact hc 4 _ rfl, by rw [← add_field _ _ 5 (by omega)]; exact hc 5 _ rfl, by rw [← add_field _ _ 6 (by omega)]; exact hc 6 _ rfl, by rw [← add_field _ _ 7 (by omega)]; exact hc 7 _ rfl, by rw [← add_field _ _ 8 (by omega)]; exact hc 8 _ rfl, by rw [← add_field _ _ 9 (by omega)]; exact hc 9 _ rfl⟩
def rd_L4 (xs : List (List S50)) (i : Int) : (List S50) := xs.getD i.toNat ([] : List S50)
theorem at_L4 {w : World} {A : Option Addr} {n : Nat} {xs : List (List S50)} (h : Kd.C (Kd.slice 50 k50) w A n xs) (i : Int) (h0 : 0 ≤ i) (h1 : i < n) : ∃ ad A0 c0, A = some ad ∧ w.cell? (ad.add i.toNat) = some (.slice A0 (rd_L4 xs i).length c0) ∧ (rd_L4 xs i).length ≤ c0 ∧ k50.C w A0 (rd_L4 xs i).length (rd_L4 xs i) := by
  obtain ⟨ad, c, e, _, hK, hc0⟩ := Kd.C_get h ([] : List S50) i h0 h1
  have hc : ∀ j u, c[j]? = some u → w.cell? (ad.add (i.toNat * 1 + j)) = some u := hc0
  obtain ⟨A0, c0, rfl, l0, g0⟩ := hK
  exact ⟨ad, A0, c0, e, by have hq := hc 0 _ rfl; rwa [Nat.mul_one, Nat.add_zero] at hq, l0, g0⟩
structure S48 where
  f0 : Int
  f1 : Bool
  f2 : Bool
  f3 : (List S50)
def z48 : S48 := ⟨(0 : Int), false, false, ([] : List S50)⟩
def k48 : Kd S48 := Kd.iso (Kd.pair (Kd.int .i64) (Kd.pair Kd.bool (Kd.pair Kd.bool (Kd.slice 50 k50)))) (fun x : S48 => (x.f0, x.f1, x.f2, x.f3))
theorem k48_heap : Kd.Heap k48 := Kd.heap_iso _ (Kd.heap_pair (Kd.heap_int .i64) (Kd.heap_pair Kd.heap_bool (Kd.heap_pair Kd.heap_bool (Kd.heap_slice 50 k50_heap))))
theorem k48_open {w : World} {x : S48} {cs : List Value} (h : k48.K w x cs) : ∃ A3 c3, cs = [.int .i64 x.f0, .bool x.f1, .bool x.f2, .slice A3 x.f3.length c3] ∧ x.f3.length ≤ c3 ∧ k50.C w A3 x.f3.length x.f3 := by
  obtain ⟨_, _, rfl, rfl, ⟨_, _, rfl, rfl, ⟨_, _, rfl, rfl, ⟨A3, c3, rfl, l3, g3⟩⟩⟩⟩ := h
  exact ⟨A3, c3, rfl, l3, g3⟩
theorem k48_openM {w : World} {base : Nat} {ok : Nat → Prop} {x : S48} {cs : List Value} (h : k48.M w base ok x cs) : ∃ v3, cs = [.int .i64 x.f0, .bool x.f1, .bool x.f2, v3] ∧ k50.R 50 w base ok v3 x.f3 := by
  obtain ⟨_, _, rfl, rfl, ⟨_, _, rfl, rfl, ⟨_, _, rfl, rfl, ⟨v3, rfl, g3⟩⟩⟩⟩ := h
  exact ⟨v3, rfl, g3⟩
theorem k48_mk (w : World) (x : S48) {A3 : Option Addr} {c3 : Nat} (l3 : x.f3.length ≤ c3) (g3 : k50.C w A3 x.f3.length x.f3) : k48.K w x [.int .i64 x.f0, .bool x.f1, .bool x.f2, .slice A3 x.f3.length c3] := ⟨[.int .i64 x.f0], [.bool x.f1, .bool x.f2, .slice A3 x.f3.length c3], rfl, rfl, ⟨[.bool x.f1], [.bool x.f2, .slice A3 x.f3.length c3], rfl, rfl, ⟨[.bool x.f2], [.slice A3 x.f3.length c3], rfl, rfl, ⟨A3, c3, rfl, l3, g3⟩⟩⟩⟩
theorem k48_mkM (w : World) (base : Nat) (ok : Nat → Prop) (x : S48) {v3 : Value} (g3 : k50.R 50 w base ok v3 x.f3) : k48.M w base ok x [.int .i64 x.f0, .bool x.f1, .bool x.f2, v3] := ⟨[.int .i64 x.f0], [.bool x.f1, .bool x.f2, v3], rfl, rfl, ⟨[.bool x.f1], [.bool x.f2, v3], rfl, rfl, ⟨[.bool x.f2], [v3], rfl, rfl, ⟨v3, rfl, g3⟩⟩⟩⟩
def rd_T48 (xs : List S48) (i : Int) : S48 := xs.getD i.toNat z48
theorem at_T48 {w : World} {A : Option Addr} {n : Nat} {xs : List S48} (h : Kd.C k48 w A n xs) (i : Int) (h0 : 0 ≤ i) (h1 : i < n) : ∃ ad A3 c3, A = some ad ∧ w.cell? (ad.add (i.toNat * 4)) = some (.int .i64 (rd_T48 xs i).f0) ∧ w.cell? ⟨(ad.add (i.toNat * 4)).block, (ad.add (i.toNat * 4)).off + 1, none⟩ = some (.bool (rd_T48 xs i).f1) ∧ w.cell? ⟨(ad.add (i.toNat * 4)).block, (ad.add (i.toNat * 4)).off + 2, none⟩ = some (.bool (rd_T48 xs i).f2) ∧ w.cell? ⟨(ad.add (i.toNat * 4)).block, (ad.add (i.toNat * 4)).off + 3, none⟩ = some (.slice A3 (rd_T48 xs i).f3.length c3) ∧ (rd_T48 xs i).f3.length ≤ c3 ∧ k50.C w A3 (rd_T48 xs i).f3.length (rd_T48 xs i).f3 := by
  obtain ⟨ad, c, e, _, hK, hc0⟩ := Kd.C_get h z48 i h0 h1
  have hc : ∀ j u, c[j]? = some u → w.cell? (ad.add (i.toNat * 4 + j)) = some u := hc0
  obtain ⟨A3, c3, rfl, l3, g3⟩ := k48_open hK
  exact ⟨ad, A3, c3, e, hc 0 _ rfl, by rw [← add_field _ _ 1 (by omega)]; exact hc 1 _ rfl, by rw [← add_field _ _ 2 (by omega)]; exact hc 2 _ rfl, by rw [← add_field _ _ 3 (by omega)]; exact hc 3 _ rfl, l3, g3⟩
def rd_L6 (xs : List (List S48)) (i : Int) : (List S48) := xs.getD i.toNat ([] : List S48)
theorem at_L6 {w : World} {A : Option Addr} {n : Nat} {xs : List (List S48)} (h : Kd.C (Kd.slice 48 k48) w A n xs) (i : Int) (h0 : 0 ≤ i) (h1 : i < n) : ∃ ad A0 c0, A = some ad ∧ w.cell? (ad.add i.toNat) = some (.slice A0 (rd_L6 xs i).length c0) ∧ (rd_L6 xs i).length ≤ c0 ∧ k48.C w A0 (rd_L6 xs i).length (rd_L6 xs i) := by
  obtain ⟨ad, c, e, _, hK, hc0⟩ := Kd.C_get h ([] : List S48) i h0 h1
  have hc : ∀ j u, c[j]? = some u → w.cell? (ad.add (i.toNat * 1 + j)) = some u := hc0
  obtain ⟨A0, c0, rfl, l0, g0⟩ := hK
  exact ⟨ad, A0, c0, e, by have hq := hc 0 _ rfl; rwa [Nat.mul_one, Nat.add_zero] at hq, l0, g0⟩
structure S45 where
  f0 : Int
  f1 : Int
  f2 : Bool
  f3 : (List S48)
def z45 : S45 := ⟨(0 : Int), (0 : Int), false, ([] : List S48)⟩
def k45 : Kd S45 := Kd.iso (Kd.pair (Kd.int .i64) (Kd.pair (Kd.int .i64) (Kd.pair Kd.bool (Kd.slice 48 k48)))) (fun x : S45 => (x.f0, x.f1, x.f2, x.f3))
theorem k45_heap : Kd.Heap k45 := Kd.heap_iso _ (Kd.heap_pair (Kd.heap_int .i64) (Kd.heap_pair (Kd.heap_int .i64) (Kd.heap_pair Kd.heap_bool (Kd.heap_slice 48 k48_heap))))
theorem k45_open {w : World} {x : S45} {cs : List Value} (h : k45.K w x cs) : ∃ A3 c3, cs = [.int .i64 x.f0, .int .i64 x.f1, .bool x.f2, .slice A3 x.f3.length c3] ∧ x.f3.length ≤ c3 ∧ k48.C w A3 x.f3.length x.f3 := by
  obtain ⟨_, _, rfl, rfl, ⟨_, _, rfl, rfl, ⟨_, _, rfl, rfl, ⟨A3, c3, rfl, l3, g3⟩⟩⟩⟩ := h
  exact ⟨A3, c3, rfl, l3, g3⟩
theorem k45_openM {w : World} {base : Nat} {ok : Nat → Prop} {x : S45} {cs : List Value} (h : k45.M w base ok x cs) : ∃ v3, cs = [.int .i64 x.f0, .int .i64 x.f1, .bool x.f2, v3] ∧ k48.R 48 w base ok v3 x.f3 := by
  obtain ⟨_, _, rfl, rfl, ⟨_, _, rfl, rfl, ⟨_, _, rfl, rfl, ⟨v3, rfl, g3⟩⟩⟩⟩ := h
  exact ⟨v3, rfl, g3⟩
theorem k45_mk (w : World) (x : S45) {A3 : Option Addr} {c3 : Nat} (l3 : x.f3.length ≤ c3) (g3 : k48.C w A3 x.f3.length x.f3) : k45.K w x [.int .i64 x.f0, .int .i64 x.f1, .bool x.f2, .slice A3 x.f3.length c3] := ⟨[.int .i64 x.f0], [.int .i64 x.f1, .bool x.f2, .slice A3 x.f3.length c3], rfl, rfl, ⟨[.int .i64 x.f1], [.bool x.f2, .slice A3 x.f3.length c3], rfl, rfl, ⟨[.bool x.f2], [.slice A3 x.f3.length c3], rfl, rfl, ⟨A3, c3, rfl, l3, g3⟩⟩⟩⟩
theorem k45_mkM (w : World) (base : Nat) (ok : Nat → Prop) (x : S45) {v3 : Value} (g3 : k48.R 48 w base ok v3 x.f3) : k45.M w base ok x [.int .i64 x.f0, .int .i64 x.f1, .bool x.f2, v3] := ⟨[.int .i64 x.f0], [.int .i64 x.f1, .bool x.f2, v3], rfl, rfl, ⟨[.int .i64 x.f1], [.bool x.f2, v3], rfl, rfl, ⟨[.bool x.f2], [v3], rfl, rfl, ⟨v3, rfl, g3⟩⟩⟩⟩
def rd_T45 (xs : List S45) (i : Int) : S45 := xs.getD i.toNat z45
theorem at_T45 {w : World} {A : Option Addr} {n : Nat} {xs : List S45} (h : Kd.C k45 w A n xs) (i : Int) (h0 : 0 ≤ i) (h1 : i < n) : ∃ ad A3 c3, A = some ad ∧ w.cell? (ad.add (i.toNat * 4)) = some (.int .i64 (rd_T45 xs i).f0) ∧ w.cell? ⟨(ad.add (i.toNat * 4)).block, (ad.add (i.toNat * 4)).off + 1, none⟩ = some (.int .i64 (rd_T45 xs i).f1) ∧ w.cell? ⟨(ad.add (i.toNat * 4)).block, (ad.add (i.toNat * 4)).off + 2, none⟩ = some (.bool (rd_T45 xs i).f2) ∧ w.cell? ⟨(ad.add (i.toNat * 4)).block, (ad.add (i.toNat * 4)).off + 3, none⟩ = some (.slice A3 (rd_T45 xs i).f3.length c3) ∧ (rd_T45 xs i).f3.length ≤ c3 ∧ k48.C w A3 (rd_T45 xs i).f3.length (rd_T45 xs i).f3 := by
  obtain ⟨ad, c, e, _, hK, hc0⟩ := Kd.C_get h z45 i h0 h1
  have hc : ∀ j u, c[j]? = some u → w.cell? (ad.add (i.toNat * 4 + j)) = some u := hc0
  obtain ⟨A3, c3, rfl, l3, g3⟩ := k45_open hK
  exact ⟨ad, A3, c3, e, hc 0 _ rfl, by rw [← add_field _ _ 1 (by omega)]; exact hc 1 _ rfl, by rw [← add_field _ _ 2 (by omega)]; exact hc 2 _ rfl, by rw [← add_field _ _ 3 (by omega)]; exact hc 3 _ rfl, l3, g3⟩
end Go.Proofs.Ytihiapjfdgoomaa.P
namespace Go.Proofs.Ytihiapjfdgoomaa.A
open Go.RowKit Go.Proofs.YtihiapjfdgoomaaW.PrintWords Go.Proofs.YtihiapjfdgoomaaW.PrintLast Go.Proofs.YtihiapjfdgoomaaW.PrintMore
open Go.Proofs.Ytihiapjfdgoomaa.P
set_option linter.unusedVariables false
set_option linter.unusedSimpArgs false
def Byt (w0 : World) (A : Option Addr) (c : Nat) (bs : List Int) : Prop := (Kd.int .u8).C w0 A bs.length bs ∧ bs.length ≤ c
def IsRd (w0 W : World) (g : Nat) (bs : List Int) (bad : Bool) : Prop :=
  ∃ A c, W.heap[g]? = some (.cells #[.slice A bs.length c, .bool bad] 70 (0, 0)) ∧ w0.heap.size ≤ g ∧ Byt w0 A c bs
def tk (n : Int) (bs : List Int) (bad : Bool) : List Int × List Int × Bool :=
  if bad = true ∨ n < 0 ∨ (bs.length : Int) < n then ([], bs, true) else (bs.take n.toNat, bs.drop n.toNat, false)
theorem IsRd.lt {w0 W : World} {g : Nat} {bs : List Int} {bad : Bool} (h : IsRd w0 W g bs bad) : g < W.heap.size := by
  obtain ⟨A, c, hb, _⟩ := h
  exact blk_lt hb
theorem IsRd.keep {w0 W W1 : World} {g g' : Nat} {bs : List Int} {bad : Bool} (h : IsRd w0 W g bs bad) (hk : Below W.heap.size W W1) : IsRd w0 W1 g bs bad := by
  obtain ⟨A, c, hb, hg, hB⟩ := h
  exact ⟨A, c, (hk.block g (blk_lt hb)).trans hb, hg, hB⟩
theorem IsRd.alloc {w0 W : World} {g : Nat} {bs : List Int} {bad : Bool} (h : IsRd w0 W g bs bad) (o : Obj) : IsRd w0 (W.alloc o) g bs bad := h.keep (g' := 0) (below_alloc (Below.refl _ _) o)
theorem take_calls (g : Nat) (n : Int) (bs : List Int) (bad : Bool) (w0 w : World) (hI : IsRd w0 w g bs bad) (hB : Below w0.heap.size w0 w) :
    Calls Try.prog 40 #[.pointer (some ⟨g, 0, none⟩), .int .i64 n] w fun e w' => ∃ A c, e = .returned (.slice A (tk n bs bad).1.length c) ∧ Byt w0 A c (tk n bs bad).1 ∧
      IsRd w0 w' g (tk n bs bad).2.1 (tk n bs bad).2.2 ∧ Below w0.heap.size w0 w' ∧ KeepBut w w' g none := by
  obtain ⟨A, c, hb, hg, hC, hc⟩ := hI
  have hcell := blk_cell hb
  have hfr := blk_frozen hb
  have HB := Aside0.mk hB
  have HC := Aside0.mk hC
  have HBK := Aside0.mk hb
  clear hB hC hb
  by_cases hbad : bad = true ∨ n < 0 ∨ (bs.length : Int) < n
  · have e1 : tk n bs bad = ([], bs, true) := if_pos hbad
    rw [e1]
    have HE := Aside0.mk hbad
    clear hbad e1
    go_enter Try.func40, Try.ntmps40
    go_upto_region 1 with (fail)
    go_cut [22] (fun v22 wc => v22 = .bool true ∧ wc = w)
    case first =>
      rcases HE.out with rfl | h
      · go_wp2
        go_meet
        case rel => exact ⟨rfl, rfl⟩
      rcases h with h | h
      · have h1 : decide (n < 0) = true := by simpa using h
        cases bad <;> (go_wp2; go_meet; case rel => exact ⟨by first | rfl | simp [h1], rfl⟩)
      · have h1 : decide ((bs.length : Int) < n) = true := by simpa using h
        have h0 : decide (n < 0) = false := by simp; omega
        cases bad <;> (go_wp2; go_meet; case rel => exact ⟨by first | rfl | simp [h1], rfl⟩)
    case rest =>
      obtain ⟨rfl, rfl⟩ := hcut
      go_wp2
      go_ret
      exact ⟨none, 0, rfl, ⟨Kd.C_nil _ _, by simp⟩, ⟨A, c, by simpa using blk_put HBK.out 1 (.bool true) rfl, hg, HC.out, hc⟩, below_set HB.out hg, (KeepBut.refl _ _ _).set_ 1 _⟩
  · have e1 : tk n bs bad = (bs.take n.toNat, bs.drop n.toNat, false) := if_neg hbad
    rw [e1]
    obtain ⟨h0, h1, h2⟩ : bad = false ∧ 0 ≤ n ∧ n ≤ bs.length := by
      refine ⟨by cases bad <;> simp_all, by omega, by omega⟩
    subst h0
    obtain ⟨m, rfl⟩ := Int.eq_ofNat_of_zero_le h1
    clear hbad e1
    have h3 : decide ((m : Int) < 0) = false := by simp
    have h4 : decide ((bs.length : Int) < (m : Int)) = false := by simp; omega
    have h5 : m ≤ bs.length := by omega
    have h6 : m ≤ c := by omega
    have hd := Kd.C_drop (m := m) HC.out h5 hc
    have ht : Byt w0 A c (bs.take m) := ⟨Kd.C_take HC.out h5, by simp; omega⟩
    have HT := Aside0.mk ht
    have HD := Aside0.mk hd
    clear ht hd
    go_enter Try.func40, Try.ntmps40
    go_wp2
    · rename_i h
      go_ret
      refine ⟨A, m, rfl, h ▸ HT.out, ⟨A, 0, by simpa using blk_put HBK.out 0 (.slice A (bs.length - m) 0) rfl, hg, ?_, by simp; omega⟩, below_set HB.out hg, (KeepBut.refl _ _ _).set_ 0 _⟩
      have := HD.out
      rwa [if_pos h] at this
    · rename_i h
      go_ret
      refine ⟨A, c, rfl, HT.out, ⟨_, c - m, by simpa using blk_put HBK.out 0 (.slice (Option.map (fun x => x.add m) A) (bs.length - m) (c - m)) rfl, hg, ?_, by simp; omega⟩, below_set HB.out hg, (KeepBut.refl _ _ _).set_ 0 _⟩
      have := HD.out
      rw [if_neg h] at this
      simpa [Kd.int, Kd.scalar] using this
theorem byt_at {w0 : World} {A : Option Addr} {c : Nat} {bs : List Int} (h : Byt w0 A c bs) (i : Nat) (hi : i < bs.length) : ∃ ad, A = some ad ∧ w0.cell? (ad.add i) = some (.int .u8 (rd bs (i : Int))) := by
  obtain ⟨ad, hA, hc⟩ := (Kd.reads_of_C (enc := Value.int .u8) (d := (0 : Int)) (h1 := fun _ => rfl) h.1).2.2 (by omega)
  exact ⟨ad, hA, by rw [hc i hi]; simp [rd]⟩
theorem byt_len {w0 : World} {A : Option Addr} {c : Nat} {bs : List Int} (h : Byt w0 A c bs) : bs.length ≤ 9223372036854775807 :=
  (Kd.reads_of_C (enc := Value.int .u8) (d := (0 : Int)) (h1 := fun _ => rfl) h.1).2.1
def step8 (n c : Int) : Int := Go.bits .or .u64 (IntKind.u64.wrap (n * 256)) (IntKind.u64.wrap c)
def fold8 (bs : List Int) : Int := bs.foldl step8 0
theorem fold8_snoc (bs : List Int) (i : Nat) (h : i < bs.length) : fold8 (bs.take (i + 1)) = step8 (fold8 (bs.take i)) (rd bs (i : Int)) := by
  unfold fold8
  rw [List.take_succ_eq_append_getElem h, List.foldl_append]
  simp [rd, List.getD_eq_getElem?_getD, List.getElem?_eq_getElem h]
def numR (bs : List Int) (bad : Bool) : Int × List Int × Bool := (wrap64 (fold8 (tk 8 bs bad).1), (tk 8 bs bad).2.1, (tk 8 bs bad).2.2)
theorem num_calls (g : Nat) (bs : List Int) (bad : Bool) (w0 w : World) (hI : IsRd w0 w g bs bad) (hB : Below w0.heap.size w0 w) :
    Calls Try.prog 30 #[.pointer (some ⟨g, 0, none⟩)] w fun e w' => e = .returned (.int .i64 (numR bs bad).1) ∧
      IsRd w0 w' g (numR bs bad).2.1 (numR bs bad).2.2 ∧ Below w0.heap.size w0 w' ∧ KeepBut w w' g none := by
  have HI := Aside0.mk hI
  have HB := Aside0.mk hB
  clear hI hB
  go_enter Try.func30, Try.ntmps30
  go_wp2_with fail
  refine (take_calls g 8 bs bad w0 w HI.out HB.out).mono ?_
  rintro e w1 ⟨A, c, rfl, hT, hI, hB, hK⟩
  obtain ⟨xs, hxs⟩ : ∃ xs, xs = (tk 8 bs bad).1 := ⟨_, rfl⟩
  rw [← hxs] at hT
  rw [← hxs]
  have HX := Aside0.mk hxs
  have HT := Aside0.mk hT
  have HI := Aside0.mk hI
  have HB := Aside0.mk hB
  have HK := Aside0.mk hK
  have hlen := byt_len hT
  clear hxs hT hI hB hK
  go_wp2_with fail
  go_loopg [3, 9] xs.length (fun kq v3 v9 wr => ∃ i : Nat, i + kq = xs.length ∧ v9 = .int .i64 (i : Int) ∧ v3 = .int .u64 (fold8 (xs.take i)) ∧ wr = w1)
  case atStart => exact ⟨0, by omega, rfl, rfl, rfl⟩
  case round =>
    obtain ⟨i, hi, rfl, rfl, rfl⟩ := hrel
    by_cases hlt : i < xs.length
    · obtain ⟨ad, hA, q0⟩ := byt_at HT.out i hlt
      subst hA
      have q := pw_cell_below HB.out q0
      have hf := Aside0.mk (fold8_snoc xs i hlt)
      clear q0
      go_wp2
      go_roundg (xs.length - (i + 1))
      case measure => omega
      case rel => exact ⟨i + 1, by omega, by go_num, by rw [hf.out]; rfl, rfl⟩
    · have hie : i = xs.length := by omega
      have hf : fold8 (xs.take i) = fold8 xs := by rw [hie, List.take_length]
      rw [hf]
      clear hf
      go_wp2
      go_ret
      exact ⟨by rw [HX.out]; rfl, HI.out, HB.out, HK.out⟩
def mnyR (least : Int) (bs : List Int) (bad : Bool) : Int × List Int × Bool :=
  if (numR bs bad).1 < 0 ∨ ((numR bs bad).2.1.length : Int) / least < (numR bs bad).1 then (0, (numR bs bad).2.1, true) else numR bs bad
theorem many_calls (g : Nat) (least : Int) (hl : 1 ≤ least) (bs : List Int) (bad : Bool) (w0 w : World) (hI : IsRd w0 w g bs bad) (hB : Below w0.heap.size w0 w) :
    Calls Try.prog 31 #[.pointer (some ⟨g, 0, none⟩), .int .i64 least] w fun e w' => e = .returned (.int .i64 (mnyR least bs bad).1) ∧
      IsRd w0 w' g (mnyR least bs bad).2.1 (mnyR least bs bad).2.2 ∧ Below w0.heap.size w0 w' ∧ KeepBut w w' g none := by
  have HI := Aside0.mk hI
  have HB := Aside0.mk hB
  clear hI hB
  obtain ⟨n, hn⟩ : ∃ n, n = (numR bs bad).1 := ⟨_, rfl⟩
  obtain ⟨rs, hrs⟩ : ∃ n, n = (numR bs bad).2.1 := ⟨_, rfl⟩
  obtain ⟨b2, hb2⟩ : ∃ n, n = (numR bs bad).2.2 := ⟨_, rfl⟩
  have hm : mnyR least bs bad = if n < 0 ∨ (rs.length : Int) / least < n then (0, rs, true) else (n, rs, b2) := by
    unfold mnyR; rw [hn, hrs, hb2]
  have HM := Aside0.mk hm
  have HN := Aside0.mk hn
  have HRS := Aside0.mk hrs
  have HB2 := Aside0.mk hb2
  clear hm hn hrs hb2
  go_enter Try.func31, Try.ntmps31
  go_wp2_with fail
  refine (num_calls g bs bad w0 w HI.out HB.out).mono ?_
  rintro e w1 ⟨rfl, hI, hB, hK⟩
  rw [← HRS.out, ← HB2.out] at hI
  rw [← HN.out]
  obtain ⟨A, c, hb, hg, hT⟩ := hI
  have hcell := blk_cell hb
  have hfr := blk_frozen hb
  have HB1 := Aside0.mk hB
  have HK := Aside0.mk hK
  have HT := Aside0.mk hT
  have HBK := Aside0.mk hb
  have hlen := byt_len hT
  have hq0 : 0 ≤ (rs.length : Int) / least := Int.ediv_nonneg (by omega) (by omega)
  have hq1 : (rs.length : Int) / least ≤ rs.length := Int.ediv_le_self _ (by omega)
  clear HN HRS HB2 hb hT hB hK
  by_cases h : n < 0 ∨ (rs.length : Int) / least < n
  · have H := Aside0.mk h
    clear h
    go_upto_region 2 with (fail)
    go_cut [20] (fun v20 wc => v20 = .bool true ∧ wc = w1)
    case first =>
      by_cases h1 : n < 0
      · have h1' : decide (n < 0) = true := by simpa using h1
        clear h1
        go_wp2
        go_meet
        case rel => exact ⟨rfl, rfl⟩
      · have h1' : decide (n < 0) = false := by simpa using h1
        have h2 : decide ((rs.length : Int) / least < n) = true := by have := H.out; simp; omega
        clear h1
        go_wp2
        go_meet
        case rel => exact ⟨rfl, rfl⟩
    case rest =>
      obtain ⟨rfl, rfl⟩ := hcut
      go_wp2
      go_ret
      rw [HM.out, if_pos H.out]
      exact ⟨rfl, ⟨A, c, by simpa using blk_put HBK.out 1 (.bool true) rfl, hg, HT.out⟩, below_set HB1.out hg, HK.out.set_ 1 _⟩
  · have H := Aside0.mk h
    have h1 : decide (n < 0) = false := by simp; omega
    have h2 : decide ((rs.length : Int) / least < n) = false := by simp; omega
    clear h
    go_wp2
    go_ret
    rw [HM.out, if_neg H.out]
    exact ⟨rfl, ⟨A, c, HBK.out, hg, HT.out⟩, HB1.out, HK.out⟩
theorem KeepBut.then_ {w w1 w2 : World} {g : Nat} (h : KeepBut w w1 g none) (k : KeepBut w1 w2 g none) : KeepBut w w2 g none := KeepBut.trans h k (.inl rfl)
def truR (bs : List Int) (bad : Bool) : Bool × List Int × Bool :=
  if (tk 1 bs bad).1 = [] then (false, (tk 1 bs bad).2.1, (tk 1 bs bad).2.2)
  else (rd (tk 1 bs bad).1 0 == 1, (tk 1 bs bad).2.1, (tk 1 bs bad).2.2 || decide (1 < rd (tk 1 bs bad).1 0))
theorem truth_rd (g : Nat) (bs : List Int) (bad : Bool) (w0 w : World) (hI : IsRd w0 w g bs bad) (hB : Below w0.heap.size w0 w) :
    Calls Try.prog 41 #[.pointer (some ⟨g, 0, none⟩)] w fun e w' => e = .returned (.bool (truR bs bad).1) ∧
      IsRd w0 w' g (truR bs bad).2.1 (truR bs bad).2.2 ∧ Below w0.heap.size w0 w' ∧ KeepBut w w' g none := by
  have HI := Aside0.mk hI
  have HB := Aside0.mk hB
  clear hI hB
  obtain ⟨xs, hxs⟩ : ∃ n, n = (tk 1 bs bad).1 := ⟨_, rfl⟩
  obtain ⟨rs, hrs⟩ : ∃ n, n = (tk 1 bs bad).2.1 := ⟨_, rfl⟩
  obtain ⟨b2, hb2⟩ : ∃ n, n = (tk 1 bs bad).2.2 := ⟨_, rfl⟩
  have hm : truR bs bad = if xs = [] then (false, rs, b2) else (rd xs 0 == 1, rs, b2 || decide (1 < rd xs 0)) := by
    unfold truR; rw [hxs, hrs, hb2]
  have HM := Aside0.mk hm
  have HN := Aside0.mk hxs
  have HRS := Aside0.mk hrs
  have HB2 := Aside0.mk hb2
  clear hm hxs hrs hb2
  go_enter Try.func41, Try.ntmps41
  go_wp2_with fail
  refine (take_calls g 1 bs bad w0 w HI.out HB.out).mono ?_
  rintro e w1 ⟨A, c, rfl, hT, hI, hB, hK⟩
  rw [← HRS.out, ← HB2.out] at hI
  rw [← HN.out] at hT
  rw [← HN.out]
  obtain ⟨A', c', hb, hg, hT'⟩ := hI
  have hcell := blk_cell hb
  have hfr := blk_frozen hb
  have HB1 := Aside0.mk hB
  have HK := Aside0.mk hK
  have HT := Aside0.mk hT
  have HT' := Aside0.mk hT'
  have HBK := Aside0.mk hb
  clear HN HRS HB2 hb hT hT' hB hK HB HI
  by_cases h : xs.length = 0
  · have h0 : xs = [] := List.eq_nil_of_length_eq_zero h
    have HM1 := Aside0.mk (show truR bs bad = (false, rs, b2) from by rw [HM.out, if_pos h0])
    subst h0
    clear h HM
    go_wp2
    go_ret
    rw [HM1.out]
    exact ⟨rfl, ⟨A', c', HBK.out, hg, HT'.out⟩, HB1.out, HK.out⟩
  · have hp : 0 < xs.length := by omega
    have hz : ((xs.length : Int) == 0) = false := by simpa using h
    have hz' : (xs.length == 0) = false := by simpa using h
    have HNE := Aside0.mk (show xs ≠ [] from fun h0 => h (by rw [h0]; rfl))
    obtain ⟨ad, hA, q0⟩ := byt_at HT.out 0 hp
    subst hA
    have q := pw_cell_below HB1.out q0
    have hne : ad.block ≠ g := by have := World.block_lt_of_cell? w0 _ q0; simp [add_block] at this; omega
    clear q0 h
    have ha : ad.add 0 = ad := by unfold Addr.add; rfl
    rw [ha] at q
    obtain ⟨x, hx⟩ : ∃ x, x = rd xs 0 := ⟨_, rfl⟩
    have e0 : rd xs ((0 : Nat) : Int) = x := by rw [hx]; rfl
    rw [e0] at q
    have HX := Aside0.mk hx
    have q' := fun u => (cell_far (W := w1) (p := ⟨g, 1, none⟩) hne u).trans q
    clear hx e0 ha hne
    cases b2 with
    | true =>
      go_wp2
      go_ret
      rw [HM.out, if_neg HNE.out, ← HX.out]
      exact ⟨rfl, ⟨A', c', by simpa using blk_put HBK.out 1 (.bool true) rfl, hg, HT'.out⟩, below_set HB1.out hg, HK.out.set_ 1 _⟩
    | false =>
      go_wp2
      go_ret
      rw [HM.out, if_neg HNE.out, ← HX.out]
      exact ⟨rfl, ⟨A', c', by simpa using blk_put HBK.out 1 (.bool (decide (1 < x))) rfl, hg, HT'.out⟩, below_set HB1.out hg, HK.out.set_ 1 _⟩
def txtR (bs : List Int) (bad : Bool) : ByteArray × List Int × Bool :=
  (strOfNums (tk (numR bs bad).1 (numR bs bad).2.1 (numR bs bad).2.2).1, (tk (numR bs bad).1 (numR bs bad).2.1 (numR bs bad).2.2).2.1, (tk (numR bs bad).1 (numR bs bad).2.1 (numR bs bad).2.2).2.2)
theorem text_rd (g : Nat) (bs : List Int) (bad : Bool) (w0 w : World) (hI : IsRd w0 w g bs bad) (hB : Below w0.heap.size w0 w) :
    Calls Try.prog 49 #[.pointer (some ⟨g, 0, none⟩)] w fun e w' => e = .returned (.string (txtR bs bad).1) ∧
      IsRd w0 w' g (txtR bs bad).2.1 (txtR bs bad).2.2 ∧ Below w0.heap.size w0 w' ∧ KeepBut w w' g none := by
  have HI := Aside0.mk hI
  have HB := Aside0.mk hB
  clear hI hB
  go_enter Try.func49, Try.ntmps49
  go_wp2_with fail
  refine (num_calls g bs bad w0 w HI.out HB.out).mono ?_
  rintro e w1 ⟨rfl, hI, hB, hK⟩
  have HI1 := Aside0.mk hI
  have HB1 := Aside0.mk hB
  have HK1 := Aside0.mk hK
  clear HI HB hI hB hK
  go_wp2_with fail
  refine (take_calls g _ _ _ w0 w1 HI1.out HB1.out).mono ?_
  rintro e w2 ⟨A, c, rfl, hT, hI, hB, hK⟩
  have HI2 := Aside0.mk hI
  have HB2 := Aside0.mk hB
  have HK2 := Aside0.mk (KeepBut.then_ HK1.out hK)
  have hcv : (convert 32 9 (.slice A (tk (numR bs bad).1 (numR bs bad).2.1 (numR bs bad).2.2).1.length c)).run Try.prog w2 = .ok (.string (strOfNums (tk (numR bs bad).1 (numR bs bad).2.1 (numR bs bad).2.2).1)) w2 :=
    Kd.C_string Try.underlying32 Try.underlying5 Try.underlying9 (Kd.C_below hT.1 hB)
  clear hI hB hK hT HI1 HB1 HK1
  go_wp2
  go_ret
  exact ⟨rfl, HI2.out, HB2.out, HK2.out⟩
end Go.Proofs.Ytihiapjfdgoomaa.A
namespace Go.Proofs.Ytihiapjfdgoomaa.P
open Go.RowKit Go.Proofs.YtihiapjfdgoomaaW.PrintWords Go.Proofs.YtihiapjfdgoomaaW.PrintLast Go.Proofs.YtihiapjfdgoomaaW.PrintMore
attribute [local go_sem] max2_int min2_int max_two min_two max_three min_three max_four min_four   -- for this text's walks alone
set_option linter.unusedVariables false
set_option linter.unusedSimpArgs false
-- NOT PRINTED: function 19 (answer_writer_lay)
-- NOT PRINTED: function 20 (answer_writer_number)
-- NOT PRINTED: function 21 (answer_writer_truth)
-- NOT PRINTED: function 37 (answer_numbers)
-- NOT PRINTED: function 38 (answer_writer_text)
-- NOT PRINTED: function 22 (answer_writer_box)
def answer_sum.l0 : Nat → Int → List Int → Int → Int → Option (Int)
  | 0, _, _, _, _ => none
  | k + 1, x3, x6, x7, x8 => if x8 < x7 then (if 0 ≤ x8 then (if x8 < (x6.length : Int) then (answer_sum.l0 k (IntKind.u64.wrap ((Go.bits .xor .u64 x3 (IntKind.u64.wrap (rd x6 x8))) * 1099511628211)) x6 x7 (wrap64 (x8 + 1))) else (none)) else (none)) else (some (wrap64 (x3)))
def answer_sum.f (k : Nat) (l0 : List Int) : Option (Int) := answer_sum.l0 k 14695981039346656037 l0 (l0.length : Int) 0
theorem answer_sum.mono_l : ∀ k, (∀ y0 y1 y2 y3, LeO (answer_sum.l0 k y0 y1 y2 y3) (answer_sum.l0 (k + 1) y0 y1 y2 y3))
  | 0 => fun _ _ _ _ r h => by simp [answer_sum.l0] at h
  | k + 1 => by
    have ih0 := answer_sum.mono_l k
    · intro y0 y1 y2 y3
      unfold answer_sum.l0
      repeat' first
      | (with_reducible exact ih0 _ _ _ _)
      | (with_reducible exact LeO.refl _)
      | (with_reducible exact LeO.none _)
      | (with_reducible refine LeO.ite ?_ ?_)
      | (with_reducible refine LeO.bind ?_ (fun _ => ?_))
      | exact ih0 _ _ _ _
      | exact LeO.none _
      | refine LeO.ite ?_ ?_
      | refine LeO.bind ?_ (fun _ => ?_)
theorem answer_sum.mono : ∀ a0 k, LeO (answer_sum.f k a0) (answer_sum.f (k + 1) a0) := by
  intro a0 k
  have ih0 := answer_sum.mono_l k
  unfold answer_sum.f
  repeat' first
      | (with_reducible exact ih0 _ _ _ _)
      | (with_reducible exact LeO.refl _)
      | (with_reducible exact LeO.none _)
      | (with_reducible refine LeO.ite ?_ ?_)
      | (with_reducible refine LeO.bind ?_ (fun _ => ?_))
      | exact ih0 _ _ _ _
      | exact LeO.none _
      | refine LeO.ite ?_ ?_
      | refine LeO.bind ?_ (fun _ => ?_)
set_option maxHeartbeats 8000000 in
set_option maxRecDepth 100000 in
theorem answer_sum.calls (k : Nat) (A0 : Option Addr) (c0 : Nat) (l0 : List Int) (r : Int) (w : World) (hr0 : Kd.C (Kd.int .u8) w A0 l0.length l0) (hc0 : l0.length ≤ c0) (h : answer_sum.f k l0 = some r) :
    Calls Try.prog 23 #[.slice A0 l0.length c0] w fun e w' => e = .returned (.int .i64 r) ∧ Drawn0 w w' := by
  have HR0 := Aside0.mk hr0
  have HC0 := Aside0.mk hc0
  clear hr0 hc0
  have H : (answer_sum.l0 k 14695981039346656037 l0 (l0.length : Int) 0) = some r := h
  clear h
  have H' := Aside0.mk H
  clear H
  go_enter Try.func23, Try.ntmps23
  go_wp2
  go_loopg [3, 8] k (fun kq v3 v8 w' => ∃ (x3_1 : Int) (x8_1 : Int), v3 = .int .u64 x3_1 ∧ v8 = .int .i64 x8_1 ∧ Aside0 (answer_sum.l0 kq x3_1 l0 (l0.length : Int) x8_1 = some r) ∧ Aside0 (kq ≤ k) ∧ Drawn0 w w')
  case atStart => exact ⟨(14695981039346656037), (0), (by first | rfl | (simp; done) | (simp [*]; done)), (by first | rfl | (simp; done) | (simp [*]; done)), H', ⟨Nat.le_refl _⟩, by repeat (first | exact Drawn0.refl _ | apply Drawn0.step)⟩
  case round =>
    clear H'
    obtain ⟨x3_1, x8_1, rfl, rfl, HA, HK1, ⟨m1, rfl⟩⟩ := hrel
    cases gk with
    | zero => exact absurd HA.out (by simp [answer_sum.l0])
    | succ k1 =>
      have H := HA.out
      clear HA
      simp only [answer_sum.l0] at H
      by_cases c2 : x8_1 < (l0.length : Int)
      · rw [if_pos c2] at H
        have c2b0 : decide (x8_1 < (l0.length : Int)) = true := decide_eq_true c2
        clear c2
        by_cases c3 : 0 ≤ x8_1
        · rw [if_pos c3] at H
          have c3b0 : decide (0 ≤ x8_1) = true := decide_eq_true c3
          clear c3
          by_cases c4 : x8_1 < (l0.length : Int)
          · rw [if_pos c4] at H
            have c4b0 : decide (x8_1 < (l0.length : Int)) = true := decide_eq_true c4
            clear c4
            have H' := Aside0.mk H
            clear H
            have p114 : 0 ≤ (x8_1 : Int) := of_decide_eq_true (by first | (with_reducible assumption) | assumption)
            have q114 : x8_1 < (l0.length : Int) := of_decide_eq_true (by first | (with_reducible assumption) | assumption)
            obtain ⟨ad114, e114, hx114_0⟩ := Kd.at_int HR0.out x8_1 p114 q114
            cases e114
            replace p114 := eq_true p114
            replace q114 := eq_true q114
            go_wp2
            go_roundg k1
            case measure => have := HK1.out; omega
            case rel => exact ⟨(IntKind.u64.wrap ((Go.bits .xor .u64 x3_1 (IntKind.u64.wrap (rd l0 x8_1))) * 1099511628211)), (wrap64 (x8_1 + 1)), (by first | rfl | (simp; done) | (simp [*]; done)), (by first | rfl | (simp; done) | (simp [*]; done)), H', ⟨by have := HK1.out; omega⟩, by repeat (first | exact Drawn0.refl _ | apply Drawn0.step)⟩
          · rw [if_neg c4] at H
            exact absurd H (by simp)
        · rw [if_neg c3] at H
          exact absurd H (by simp)
      · rw [if_neg c2] at H
        have c2b0 : decide (x8_1 < (l0.length : Int)) = false := decide_eq_false c2
        clear c2
        obtain rfl := Option.some.inj H
        go_wp2
        go_ret
        exact ⟨by first | rfl | (simp; done) | (simp [*]; done), by repeat (first | exact Drawn0.refl _ | apply Drawn0.step)⟩
end Go.Proofs.Ytihiapjfdgoomaa.P
namespace Go.Proofs.Ytihiapjfdgoomaa.A
open Go.RowKit Go.Proofs.YtihiapjfdgoomaaW.PrintWords Go.Proofs.YtihiapjfdgoomaaW.PrintLast Go.Proofs.YtihiapjfdgoomaaW.PrintMore
open Go.Proofs.Ytihiapjfdgoomaa.P
set_option linter.unusedVariables false
set_option linter.unusedSimpArgs false
def trB (t : Bool) : List Int := [if t then 1 else 0]
def bxB (b : S50) : List Int := boxBytes b.f0 b.f1 b.f2 b.f3 b.f4 b.f5 b.f6 b.f7 b.f8 b.f9
def bxsB (l : List S50) : List Int := l.flatMap bxB
def rwB (r : S48) : List Int := be8 r.f0 ++ (trB r.f1 ++ (trB r.f2 ++ (be8 r.f3.length ++ bxsB r.f3)))
def rwsB (l : List S48) : List Int := l.flatMap rwB
def pgB (p : S45) : List Int := be8 p.f0 ++ (be8 p.f1 ++ (trB p.f2 ++ (be8 p.f3.length ++ rwsB p.f3)))
def pgsB (l : List S45) : List Int := l.flatMap pgB
def markB : List Int := [112, 108, 97, 116, 101, 110, 65, 49]
def headB (a0 a1 a2 a3 : Int) (l : List S45) : List Int := markB ++ (be8 a0 ++ (be8 a1 ++ (be8 a2 ++ (be8 a3 ++ be8 l.length))))
def bodyB (a0 a1 a2 a3 : Int) (l : List S45) : List Int := headB a0 a1 a2 a3 l ++ pgsB l
def fnv (s c : Int) : Int := IntKind.u64.wrap ((Go.bits .xor .u64 s (IntKind.u64.wrap c)) * 1099511628211)
def fnvs (l : List Int) : Int := l.foldl fnv 14695981039346656037
def putB (a0 a1 a2 a3 : Int) (l : List S45) : List Int := bodyB a0 a1 a2 a3 l ++ be8 (wrap64 (fnvs (bodyB a0 a1 a2 a3 l)))
theorem take_flat {α : Type} (f : α → List Int) (z : α) (l : List α) (i : Nat) (h : i < l.length) : (l.take (i + 1)).flatMap f = (l.take i).flatMap f ++ f (l.getD i z) := by
  rw [List.take_succ_eq_append_getElem h, List.flatMap_append]
  simp [List.getD_eq_getElem?_getD, List.getElem?_eq_getElem h]
theorem take_flat_le {α : Type} (f : α → List Int) (l : List α) (i : Nat) : ((l.take i).flatMap f).length ≤ (l.flatMap f).length := by
  conv => rhs; rw [← List.take_append_drop i l]
  simp only [List.flatMap_append, List.length_append]; omega
theorem be8_length (n : Int) : (be8 n).length = 8 := rfl
theorem trB_length (t : Bool) : (trB t).length = 1 := rfl
theorem headB_length (a0 a1 a2 a3 : Int) (l : List S45) : (headB a0 a1 a2 a3 l).length = 48 := rfl
theorem markB_eq : bytesOf ⟨#[112, 108, 97, 116, 101, 110, 65, 49]⟩ = markB := by decide
theorem flat_ge {α : Type} (f : α → List Int) (h : ∀ x, 1 ≤ (f x).length) (l : List α) : l.length ≤ (l.flatMap f).length := by
  induction l with
  | nil => simp
  | cons x l ih => have := h x; simp only [List.flatMap_cons, List.length_append, List.length_cons]; omega
theorem pgB_length (p : S45) : (pgB p).length = 25 + (rwsB p.f3).length := by simp only [pgB, List.length_append, be8_length, trB_length]; omega
theorem rwB_length (r : S48) : (rwB r).length = 18 + (bxsB r.f3).length := by simp only [rwB, List.length_append, be8_length, trB_length]; omega
theorem bxB_length (b : S50) : (bxB b).length = 80 + b.f2.size := by simp only [bxB, boxBytes, List.length_append, be8_length, bytesOf_length]; omega
theorem fnv_eq (s c : Int) : IntKind.u64.wrap ((Go.bits .xor .u64 s (IntKind.u64.wrap c)) * 1099511628211) = fnv s c := rfl
theorem sum_loop (l : List Int) (hl : l.length ≤ 9223372036854775807) : ∀ (d i : Nat) (s : Int), i + d = l.length → answer_sum.l0 (d + 1) s l (l.length : Int) (i : Int) = some (wrap64 ((l.drop i).foldl fnv s)) := by
  intro d
  induction d with
  | zero =>
    intro i s hi
    simp only [answer_sum.l0]
    rw [if_neg (by omega), List.drop_of_length_le (by omega)]
    rfl
  | succ d ih =>
    intro i s hi
    rw [answer_sum.l0]
    rw [if_pos (by omega), if_pos (by omega), if_pos (by omega)]
    have hw : wrap64 ((i : Int) + 1) = ((i + 1 : Nat) : Int) := by unfold wrap64; omega
    have hrd : rd l (i : Int) = l[i] := by simp [rd, List.getD_eq_getElem?_getD, List.getElem?_eq_getElem (by omega : i < l.length)]
    rw [hw, ih (i + 1) _ (by omega), fnv_eq, hrd, List.drop_eq_getElem_cons (by omega : i < l.length), List.foldl_cons]
theorem sum_loop0 (l : List Int) (hl : l.length ≤ 9223372036854775807) (s : Int) : answer_sum.l0 (l.length + 1) s l (l.length : Int) 0 = some (wrap64 (l.foldl fnv s)) := by
  have h := sum_loop l hl l.length 0 s (by omega)
  rw [List.drop_zero] at h
  exact h
theorem sum_tells (l : List Int) (hl : l.length ≤ 9223372036854775807) : answer_sum.f (l.length + 1) l = some (wrap64 (fnvs l)) := by
  unfold answer_sum.f fnvs
  exact sum_loop0 l hl _
theorem put_no (a0 a1 a2 a3 : Int) (A : Option Addr) (c : Nat) (l : List S45) (w : World) (hC : Kd.C k45 w A l.length l) (hc : l.length ≤ c)
    (h : a2 < 0 ∨ a3 < 0 ∨ a0 ≠ 0 ∧ 0 < l.length) :
    Calls Try.prog 10 #[.agg #[.int .i64 a0, .int .i64 a1, .int .i64 a2, .int .i64 a3, .slice A l.length c]] w fun e w' =>
      e = .returned (.tuple #[.slice none 0 0, .int .i64 200]) ∧ Below w.heap.size w w' := by
  clear hC
  by_cases h2 : a2 < 0
  · clear h
    have h2b : decide (a2 < 0) = true := by simpa using h2
    go_enter Try.func10, Try.ntmps10
    go_wp2
    go_ret2
    exact ⟨rfl, below_alloc (Below.refl _ _) _⟩
  have h2b : decide (a2 < 0) = false := by simpa using h2
  by_cases h3 : a3 < 0
  · clear h
    have h3b : decide (a3 < 0) = true := by simpa using h3
    go_enter Try.func10, Try.ntmps10
    go_wp2
    go_ret2
    exact ⟨rfl, below_alloc (Below.refl _ _) _⟩
  have h3b : decide (a3 < 0) = false := by simpa using h3
  have h4 : a0 ≠ 0 ∧ 0 < l.length := by omega
  have h0b : (a0 == 0) = false := by simpa using h4.1
  have h0c : (a0 != 0) = true := by simpa using h4.1
  have h5 : decide ((0 : Int) < (l.length : Int)) = true := by simpa using h4.2
  have h6 : decide (0 < l.length) = true := by simpa using h4.2
  clear h h4
  go_enter Try.func10, Try.ntmps10
  go_wp2
  go_ret2
  exact ⟨rfl, below_alloc (Below.refl _ _) _⟩
set_option maxHeartbeats 4000000 in
set_option maxRecDepth 100000 in
theorem put_ok (a0 a1 a2 a3 : Int) (A : Option Addr) (c : Nat) (l : List S45) (w : World) (hC : Kd.C k45 w A l.length l) (hc : l.length ≤ c)
    (h2 : 0 ≤ a2) (h3 : 0 ≤ a3) (h0 : a0 = 0 ∨ l.length = 0) (hl : (bodyB a0 a1 a2 a3 l).length + 8 ≤ 140737488355328) :
    Calls Try.prog 10 #[.agg #[.int .i64 a0, .int .i64 a1, .int .i64 a2, .int .i64 a3, .slice A l.length c]] w fun e w' =>
      ∃ v : Value, e = .returned (.tuple #[v, .int .i64 0]) ∧ Kd.R (Kd.int .u8) 5 w' w.heap.size (fun _ => True) v (putB a0 a1 a2 a3 l) ∧ Below w.heap.size w w' := by
  have HC := Aside0.mk hC
  have HL := Aside0.mk hl
  have h2b : decide (a2 < 0) = false := by simpa using h2
  have h3b : decide (a3 < 0) = false := by simpa using h3
  have h0b : ((a0 != 0) && decide ((0 : Int) < (l.length : Int))) = false := by
    rcases h0 with rfl | h
    · simp
    · simp [h]
  have H0b := Aside0.mk h0b
  clear hC hl h0b
  go_enter Try.func10, Try.ntmps10
  go_upto_region 1 with (fail)
  go_cut [32] (fun v32 wc => v32 = .bool false ∧ wc = w.alloc (.cells #[.int .i64 a0, .int .i64 a1, .int .i64 a2, .int .i64 a3, .slice A l.length c] 27))
  case first =>
    by_cases h00 : a0 = 0
    · have z1 : (a0 == 0) = true := by simpa using h00
      have z2 : (a0 != 0) = false := by simpa using h00
      clear h00
      go_wp2
      go_meet
      case rel => exact ⟨rfl, rfl⟩
    · have z1 : (a0 == 0) = false := by simpa using h00
      have z2 : (a0 != 0) = true := by simpa using h00
      have hz : decide ((0 : Int) < (l.length : Int)) = false := by have := H0b.out; simpa [h00] using this
      have hz' : decide (0 < l.length) = false := by simpa using hz
      go_wp2
      go_meet
      case rel => exact ⟨rfl, rfl⟩
  case rest =>
    obtain ⟨rfl, rfl⟩ := hcut
    clear h0
    have HLn := Aside0.mk (show 8 + 40 + (pgsB l).length + 8 ≤ 140737488355328 by have := HL.out; simp only [bodyB, headB, List.length_append, be8_length, markB, List.length_cons, List.length_nil] at this; omega)
    have hll : l.length ≤ 140737488355328 := by have h1 := flat_ge pgB (fun r => by rw [pgB_length]; omega) l; have h2 := HLn.out; simp only [pgsB] at h2; omega
    have hg27 : w.heap.size ≠ w.heap.size + 1 := by omega
    have H0 := Aside0.mk (And.intro ((⟨.slice none 0 0, by simpa using heap_alloc_new (w.alloc (.cells #[.int .i64 a0, .int .i64 a1, .int .i64 a2, .int .i64 a3, .slice A l.length c] 27)) (.cells #[.slice none 0 0] 53), by omega, Kd.R_nil _ _ _ _ _⟩ : IsB w ((w.alloc (.cells #[.int .i64 a0, .int .i64 a1, .int .i64 a2, .int .i64 a3, .slice A l.length c] 27)).alloc (.cells #[.slice none 0 0] 53)) (w.heap.size + 1) [])) (And.intro (below_alloc (below_alloc (Below.refl w.heap.size w) (.cells #[.int .i64 a0, .int .i64 a1, .int .i64 a2, .int .i64 a3, .slice A l.length c] 27)) (.cells #[.slice none 0 0] 53)) (And.intro ((Below.heap_alloc (w.alloc (.cells #[.int .i64 a0, .int .i64 a1, .int .i64 a2, .int .i64 a3, .slice A l.length c] 27)) (.cells #[.slice none 0 0] 53) w.heap.size (by simp)).trans (heap_alloc_new w (.cells #[.int .i64 a0, .int .i64 a1, .int .i64 a2, .int .i64 a3, .slice A l.length c] 27))) trivial)))
    have hc0 := blk_cell (H0.out.2.2.1)
    go_wp2_with fail
    refine (lay_T (w.heap.size + 1) _ ⟨#[112, 108, 97, 116, 101, 110, 65, 49]⟩ w _ H0.out.1 H0.out.2.1 (by decide)).mono ?_
    rintro e W1 ⟨rfl, hI, hB, hK⟩
    have H1 := Aside0.mk (And.intro hI (And.intro hB (And.intro (hK.blk (H0.out.2.2.1) hg27 (by decide)) trivial)))
    clear hI hB hK hc0
    clear H0
    have i0 : ∀ w, (Instr.index 55 (.agg #[.int .i64 a0, .int .i64 a1, .int .i64 a2, .int .i64 a3, .int .i64 (l.length : Int)]) (.int .i64 0)).run Try.prog w = .ok (.int .i64 a0) w := fun _ => by kernel_rfl
    have i1 : ∀ w, (Instr.index 55 (.agg #[.int .i64 a0, .int .i64 a1, .int .i64 a2, .int .i64 a3, .int .i64 (l.length : Int)]) (.int .i64 1)).run Try.prog w = .ok (.int .i64 a1) w := fun _ => by kernel_rfl
    have i2 : ∀ w, (Instr.index 55 (.agg #[.int .i64 a0, .int .i64 a1, .int .i64 a2, .int .i64 a3, .int .i64 (l.length : Int)]) (.int .i64 2)).run Try.prog w = .ok (.int .i64 a2) w := fun _ => by kernel_rfl
    have i3 : ∀ w, (Instr.index 55 (.agg #[.int .i64 a0, .int .i64 a1, .int .i64 a2, .int .i64 a3, .int .i64 (l.length : Int)]) (.int .i64 3)).run Try.prog w = .ok (.int .i64 a3) w := fun _ => by kernel_rfl
    have i4 : ∀ w, (Instr.index 55 (.agg #[.int .i64 a0, .int .i64 a1, .int .i64 a2, .int .i64 a3, .int .i64 (l.length : Int)]) (.int .i64 4)).run Try.prog w = .ok (.int .i64 (l.length : Int)) w := fun _ => by kernel_rfl
    have hc0 := blk_cell H1.out.2.2.1
    go_wp2_with fail
    refine wp_loop_rounds 6 ?_
    rw [rounds_succ]
    have hc0 := blk_cell (H1.out.2.2.1)
    go_wp2_with fail
    refine (number_T (w.heap.size + 1) _ a0 w _ H1.out.1 H1.out.2.1 (by first | decide | (simp only [List.length_append, be8_length, trB_length, bytesOf_length, markB, List.length_cons, List.length_nil]; decide) | (simp only [List.length_append, be8_length, trB_length, bytesOf_length, markB, List.length_cons, List.length_nil]; omega))).mono ?_
    rintro e W2 ⟨rfl, hI, hB, hK⟩
    have H2 := Aside0.mk (And.intro hI (And.intro hB (And.intro (hK.blk (H1.out.2.2.1) hg27 (by decide)) trivial)))
    clear hI hB hK hc0
    clear H1
    have hc0 := blk_cell H2.out.2.2.1
    go_wp2_with fail
    clear hc0
    rw [rounds_succ]
    have hc0 := blk_cell (H2.out.2.2.1)
    go_wp2_with fail
    refine (number_T (w.heap.size + 1) _ a1 w _ H2.out.1 H2.out.2.1 (by first | decide | (simp only [List.length_append, be8_length, trB_length, bytesOf_length, markB, List.length_cons, List.length_nil]; decide) | (simp only [List.length_append, be8_length, trB_length, bytesOf_length, markB, List.length_cons, List.length_nil]; omega))).mono ?_
    rintro e W3 ⟨rfl, hI, hB, hK⟩
    have H3 := Aside0.mk (And.intro hI (And.intro hB (And.intro (hK.blk (H2.out.2.2.1) hg27 (by decide)) trivial)))
    clear hI hB hK hc0
    clear H2
    have hc0 := blk_cell H3.out.2.2.1
    go_wp2_with fail
    clear hc0
    rw [rounds_succ]
    have hc0 := blk_cell (H3.out.2.2.1)
    go_wp2_with fail
    refine (number_T (w.heap.size + 1) _ a2 w _ H3.out.1 H3.out.2.1 (by first | decide | (simp only [List.length_append, be8_length, trB_length, bytesOf_length, markB, List.length_cons, List.length_nil]; decide) | (simp only [List.length_append, be8_length, trB_length, bytesOf_length, markB, List.length_cons, List.length_nil]; omega))).mono ?_
    rintro e W4 ⟨rfl, hI, hB, hK⟩
    have H4 := Aside0.mk (And.intro hI (And.intro hB (And.intro (hK.blk (H3.out.2.2.1) hg27 (by decide)) trivial)))
    clear hI hB hK hc0
    clear H3
    have hc0 := blk_cell H4.out.2.2.1
    go_wp2_with fail
    clear hc0
    rw [rounds_succ]
    have hc0 := blk_cell (H4.out.2.2.1)
    go_wp2_with fail
    refine (number_T (w.heap.size + 1) _ a3 w _ H4.out.1 H4.out.2.1 (by first | decide | (simp only [List.length_append, be8_length, trB_length, bytesOf_length, markB, List.length_cons, List.length_nil]; decide) | (simp only [List.length_append, be8_length, trB_length, bytesOf_length, markB, List.length_cons, List.length_nil]; omega))).mono ?_
    rintro e W5 ⟨rfl, hI, hB, hK⟩
    have H5 := Aside0.mk (And.intro hI (And.intro hB (And.intro (hK.blk (H4.out.2.2.1) hg27 (by decide)) trivial)))
    clear hI hB hK hc0
    clear H4
    have hc0 := blk_cell H5.out.2.2.1
    go_wp2_with fail
    clear hc0
    rw [rounds_succ]
    have hc0 := blk_cell (H5.out.2.2.1)
    go_wp2_with fail
    refine (number_T (w.heap.size + 1) _ (l.length : Int) w _ H5.out.1 H5.out.2.1 (by first | decide | (simp only [List.length_append, be8_length, trB_length, bytesOf_length, markB, List.length_cons, List.length_nil]; decide) | (simp only [List.length_append, be8_length, trB_length, bytesOf_length, markB, List.length_cons, List.length_nil]; omega))).mono ?_
    rintro e W6 ⟨rfl, hI, hB, hK⟩
    have H6 := Aside0.mk (And.intro hI (And.intro hB (And.intro (hK.blk (H5.out.2.2.1) hg27 (by decide)) trivial)))
    clear hI hB hK hc0
    clear H5
    have hc0 := blk_cell H6.out.2.2.1
    go_wp2_with fail
    clear hc0
    rw [rounds_succ]
    have hc0 := blk_cell H6.out.2.2.1
    go_wp2_with fail
    have HI := Aside0.mk (show IsB w W6 (w.heap.size + 1) (headB a0 a1 a2 a3 l) from by have h := H6.out.1; rw [markB_eq] at h; simpa only [headB, List.nil_append, List.append_assoc] using h)
    have HB := Aside0.mk H6.out.2.1
    clear hc0 H6 i0 i1 i2 i3 i4
    go_loopg [61] l.length (fun kq v61 wr => ∃ i : Nat, i + kq = l.length ∧ v61 = .int .i64 (i : Int) ∧ Aside0 (IsB w wr (w.heap.size + 1) (headB a0 a1 a2 a3 l ++ pgsB (l.take i))) ∧ Aside0 (Below w.heap.size w wr))
    case atStart => exact ⟨0, by omega, rfl, by simpa [pgsB] using HI, HB⟩
    case round =>
      clear HI HB
      obtain ⟨i, hi, rfl, HI, HB⟩ := hrel
      by_cases hlt : i < l.length
      · have HLp := Aside0.mk (show 48 + (pgsB (l.take i)).length + (25 + (rwsB (rd_T45 l (i : Int)).f3).length) + 8 ≤ 140737488355328 from by
          have h1 := take_flat_le pgB l (i + 1)
          have h2 := take_flat pgB z45 l i hlt
          have h3 := pgB_length (l.getD i z45)
          have h4 := HLn.out
          rw [h2, List.length_append] at h1
          simp only [rd_T45, Int.toNat_natCast]
          simp only [pgsB] at h4 ⊢
          omega)
        have hlj : (rd_T45 l (i : Int)).f3.length ≤ 140737488355328 := by have h1 := flat_ge rwB (fun r => by rw [rwB_length]; omega) (rd_T45 l (i : Int)).f3; have h2 := HLp.out; simp only [rwsB] at h2; omega
        have HEp := Aside0.mk (show pgsB (l.take (i + 1)) = pgsB (l.take i) ++ pgB (rd_T45 l (i : Int)) from take_flat pgB z45 l i hlt)
        obtain ⟨ad, A3, c3, hA, p0, p1, p2, p3, l3, g3⟩ := at_T45 HC.out (i : Int) (by omega) (by omega)
        subst hA
        simp only [Int.toNat_natCast] at p0 p1 p2 p3
        have q0 := pw_cell_below HB.out p0
        have q1 := pw_cell_below HB.out p1
        have q2 := pw_cell_below HB.out p2
        have q3 := pw_cell_below HB.out p3
        have G3 := Aside0.mk g3
        have hg45 : wr.heap.size ≠ w.heap.size + 1 := by have := HI.out.lt; omega
        clear g3 p0 p1 p2 p3
        have HP0 := Aside0.mk (And.intro (HI.out.alloc (.cells #[.int .i64 (rd_T45 l (i : Int)).f0, .int .i64 (rd_T45 l (i : Int)).f1, .bool (rd_T45 l (i : Int)).f2, .slice A3 (rd_T45 l (i : Int)).f3.length c3] 45)) (And.intro (below_alloc HB.out (.cells #[.int .i64 (rd_T45 l (i : Int)).f0, .int .i64 (rd_T45 l (i : Int)).f1, .bool (rd_T45 l (i : Int)).f2, .slice A3 (rd_T45 l (i : Int)).f3.length c3] 45)) (And.intro (heap_alloc_new wr (.cells #[.int .i64 (rd_T45 l (i : Int)).f0, .int .i64 (rd_T45 l (i : Int)).f1, .bool (rd_T45 l (i : Int)).f2, .slice A3 (rd_T45 l (i : Int)).f3.length c3] 45)) trivial)))
        clear HI HB
        go_wp2_with fail
        clear q0 q1 q2 q3
        refine (number_T (w.heap.size + 1) _ (rd_T45 l (i : Int)).f0 w _ HP0.out.1 HP0.out.2.1 (by have := HLp.out; simp only [List.length_append, be8_length, trB_length, headB_length, List.length_cons, List.length_nil]; omega)).mono ?_
        rintro e W11 ⟨rfl, hI, hB, hK⟩
        have H11 := Aside0.mk (And.intro hI (And.intro hB (And.intro (hK.blk (HP0.out.2.2.1) hg45 (by decide)) trivial)))
        clear hI hB hK
        clear HP0
        have hc0 := blk_cell (H11.out.2.2.1)
        go_wp2_with fail
        refine (number_T (w.heap.size + 1) _ (rd_T45 l (i : Int)).f1 w _ H11.out.1 H11.out.2.1 (by have := HLp.out; simp only [List.length_append, be8_length, trB_length, headB_length, List.length_cons, List.length_nil]; omega)).mono ?_
        rintro e W12 ⟨rfl, hI, hB, hK⟩
        have H12 := Aside0.mk (And.intro hI (And.intro hB (And.intro (hK.blk (H11.out.2.2.1) hg45 (by decide)) trivial)))
        clear hI hB hK hc0
        clear H11
        have hc0 := blk_cell (H12.out.2.2.1)
        go_wp2_with fail
        refine (truth_T (w.heap.size + 1) _ (rd_T45 l (i : Int)).f2 w _ H12.out.1 H12.out.2.1 (by have := HLp.out; simp only [List.length_append, be8_length, trB_length, headB_length, List.length_cons, List.length_nil]; omega)).mono ?_
        rintro e W13 ⟨rfl, hI, hB, hK⟩
        have H13 := Aside0.mk (And.intro hI (And.intro hB (And.intro (hK.blk (H12.out.2.2.1) hg45 (by decide)) trivial)))
        clear hI hB hK hc0
        clear H12
        have hc0 := blk_cell (H13.out.2.2.1)
        go_wp2_with fail
        refine (number_T (w.heap.size + 1) _ ((rd_T45 l (i : Int)).f3.length : Int) w _ H13.out.1 H13.out.2.1 (by have := HLp.out; simp only [List.length_append, be8_length, trB_length, headB_length, List.length_cons, List.length_nil]; omega)).mono ?_
        rintro e W14 ⟨rfl, hI, hB, hK⟩
        have H14 := Aside0.mk (And.intro hI (And.intro hB (And.intro (hK.blk (H13.out.2.2.1) hg45 (by decide)) trivial)))
        clear hI hB hK hc0
        clear H13
        have hc0 := blk_cell (H14.out.2.2.1)
        go_wp2_with fail
        clear hc0
        have HI := Aside0.mk (show IsB w W14 (w.heap.size + 1) (headB a0 a1 a2 a3 l ++ pgsB (l.take i) ++ be8 (rd_T45 l (i : Int)).f0 ++ be8 (rd_T45 l (i : Int)).f1 ++ trB (rd_T45 l (i : Int)).f2 ++ be8 ((rd_T45 l (i : Int)).f3.length : Int)) from H14.out.1)
        have HB := Aside0.mk H14.out.2.1
        clear H14
        go_loopg [85] (rd_T45 l (i : Int)).f3.length (fun kq v85 wr => ∃ j : Nat, j + kq = (rd_T45 l (i : Int)).f3.length ∧ v85 = .int .i64 (j : Int) ∧ Aside0 (IsB w wr (w.heap.size + 1) (headB a0 a1 a2 a3 l ++ pgsB (l.take i) ++ be8 (rd_T45 l (i : Int)).f0 ++ be8 (rd_T45 l (i : Int)).f1 ++ trB (rd_T45 l (i : Int)).f2 ++ be8 ((rd_T45 l (i : Int)).f3.length : Int) ++ rwsB ((rd_T45 l (i : Int)).f3.take j))) ∧ Aside0 (Below w.heap.size w wr))
        case atStart => exact ⟨0, by omega, rfl, by simpa [rwsB] using HI, HB⟩
        case round =>
          clear HI HB
          obtain ⟨j, hj, rfl, HI, HB⟩ := hrel
          by_cases hltj : j < (rd_T45 l (i : Int)).f3.length
          · have HLr := Aside0.mk (show 48 + (pgsB (l.take i)).length + (25 + (rwsB ((rd_T45 l (i : Int)).f3.take j)).length) + (18 + (bxsB (rd_T48 (rd_T45 l (i : Int)).f3 (j : Int)).f3).length) + 8 ≤ 140737488355328 from by
              have h1 := take_flat_le rwB (rd_T45 l (i : Int)).f3 (j + 1)
              have h2 := take_flat rwB z48 (rd_T45 l (i : Int)).f3 j hltj
              have h3 := rwB_length ((rd_T45 l (i : Int)).f3.getD j z48)
              have h4 := HLp.out
              rw [h2, List.length_append] at h1
              simp only [rd_T48, Int.toNat_natCast]
              simp only [rwsB] at h4 ⊢
              omega)
            have hlm : (rd_T48 (rd_T45 l (i : Int)).f3 (j : Int)).f3.length ≤ 140737488355328 := by have h1 := flat_ge bxB (fun r => by rw [bxB_length]; omega) (rd_T48 (rd_T45 l (i : Int)).f3 (j : Int)).f3; have h2 := HLr.out; simp only [bxsB] at h2; omega
            have HEr := Aside0.mk (show rwsB ((rd_T45 l (i : Int)).f3.take (j + 1)) = rwsB ((rd_T45 l (i : Int)).f3.take j) ++ rwB (rd_T48 (rd_T45 l (i : Int)).f3 (j : Int)) from take_flat rwB z48 (rd_T45 l (i : Int)).f3 j hltj)
            obtain ⟨ad4, A4, c4, hA4, p0, p1, p2, p3, l4, g4⟩ := at_T48 G3.out (j : Int) (by omega) (by omega)
            subst hA4
            simp only [Int.toNat_natCast] at p0 p1 p2 p3
            have q0 := pw_cell_below HB.out p0
            have q1 := pw_cell_below HB.out p1
            have q2 := pw_cell_below HB.out p2
            have q3 := pw_cell_below HB.out p3
            have G4 := Aside0.mk g4
            have hg48 : wr.heap.size ≠ w.heap.size + 1 := by have := HI.out.lt; omega
            clear g4 p0 p1 p2 p3
            have HR0 := Aside0.mk (And.intro (HI.out.alloc (.cells #[.int .i64 (rd_T48 (rd_T45 l (i : Int)).f3 (j : Int)).f0, .bool (rd_T48 (rd_T45 l (i : Int)).f3 (j : Int)).f1, .bool (rd_T48 (rd_T45 l (i : Int)).f3 (j : Int)).f2, .slice A4 (rd_T48 (rd_T45 l (i : Int)).f3 (j : Int)).f3.length c4] 48)) (And.intro (below_alloc HB.out (.cells #[.int .i64 (rd_T48 (rd_T45 l (i : Int)).f3 (j : Int)).f0, .bool (rd_T48 (rd_T45 l (i : Int)).f3 (j : Int)).f1, .bool (rd_T48 (rd_T45 l (i : Int)).f3 (j : Int)).f2, .slice A4 (rd_T48 (rd_T45 l (i : Int)).f3 (j : Int)).f3.length c4] 48)) (And.intro (heap_alloc_new wr (.cells #[.int .i64 (rd_T48 (rd_T45 l (i : Int)).f3 (j : Int)).f0, .bool (rd_T48 (rd_T45 l (i : Int)).f3 (j : Int)).f1, .bool (rd_T48 (rd_T45 l (i : Int)).f3 (j : Int)).f2, .slice A4 (rd_T48 (rd_T45 l (i : Int)).f3 (j : Int)).f3.length c4] 48)) trivial)))
            clear HI HB
            go_wp2_with fail
            clear q0 q1 q2 q3
            refine (number_T (w.heap.size + 1) _ (rd_T48 (rd_T45 l (i : Int)).f3 (j : Int)).f0 w _ HR0.out.1 HR0.out.2.1 (by have := HLr.out; simp only [List.length_append, be8_length, trB_length, headB_length, List.length_cons, List.length_nil]; omega)).mono ?_
            rintro e W21 ⟨rfl, hI, hB, hK⟩
            have H21 := Aside0.mk (And.intro hI (And.intro hB (And.intro (hK.blk (HR0.out.2.2.1) hg48 (by decide)) trivial)))
            clear hI hB hK
            clear HR0
            have hc0 := blk_cell (H21.out.2.2.1)
            go_wp2_with fail
            refine (truth_T (w.heap.size + 1) _ (rd_T48 (rd_T45 l (i : Int)).f3 (j : Int)).f1 w _ H21.out.1 H21.out.2.1 (by have := HLr.out; simp only [List.length_append, be8_length, trB_length, headB_length, List.length_cons, List.length_nil]; omega)).mono ?_
            rintro e W22 ⟨rfl, hI, hB, hK⟩
            have H22 := Aside0.mk (And.intro hI (And.intro hB (And.intro (hK.blk (H21.out.2.2.1) hg48 (by decide)) trivial)))
            clear hI hB hK hc0
            clear H21
            have hc0 := blk_cell (H22.out.2.2.1)
            go_wp2_with fail
            refine (truth_T (w.heap.size + 1) _ (rd_T48 (rd_T45 l (i : Int)).f3 (j : Int)).f2 w _ H22.out.1 H22.out.2.1 (by have := HLr.out; simp only [List.length_append, be8_length, trB_length, headB_length, List.length_cons, List.length_nil]; omega)).mono ?_
            rintro e W23 ⟨rfl, hI, hB, hK⟩
            have H23 := Aside0.mk (And.intro hI (And.intro hB (And.intro (hK.blk (H22.out.2.2.1) hg48 (by decide)) trivial)))
            clear hI hB hK hc0
            clear H22
            have hc0 := blk_cell (H23.out.2.2.1)
            go_wp2_with fail
            refine (number_T (w.heap.size + 1) _ ((rd_T48 (rd_T45 l (i : Int)).f3 (j : Int)).f3.length : Int) w _ H23.out.1 H23.out.2.1 (by have := HLr.out; simp only [List.length_append, be8_length, trB_length, headB_length, List.length_cons, List.length_nil]; omega)).mono ?_
            rintro e W24 ⟨rfl, hI, hB, hK⟩
            have H24 := Aside0.mk (And.intro hI (And.intro hB (And.intro (hK.blk (H23.out.2.2.1) hg48 (by decide)) trivial)))
            clear hI hB hK hc0
            clear H23
            have hc0 := blk_cell (H24.out.2.2.1)
            go_wp2_with fail
            clear hc0
            have HI := Aside0.mk (show IsB w W24 (w.heap.size + 1) (headB a0 a1 a2 a3 l ++ pgsB (l.take i) ++ be8 (rd_T45 l (i : Int)).f0 ++ be8 (rd_T45 l (i : Int)).f1 ++ trB (rd_T45 l (i : Int)).f2 ++ be8 ((rd_T45 l (i : Int)).f3.length : Int) ++ rwsB ((rd_T45 l (i : Int)).f3.take j) ++ be8 (rd_T48 (rd_T45 l (i : Int)).f3 (j : Int)).f0 ++ trB (rd_T48 (rd_T45 l (i : Int)).f3 (j : Int)).f1 ++ trB (rd_T48 (rd_T45 l (i : Int)).f3 (j : Int)).f2 ++ be8 ((rd_T48 (rd_T45 l (i : Int)).f3 (j : Int)).f3.length : Int)) from H24.out.1)
            have HB := Aside0.mk H24.out.2.1
            clear H24
            go_loopg [109] (rd_T48 (rd_T45 l (i : Int)).f3 (j : Int)).f3.length (fun kq v109 wr => ∃ m : Nat, m + kq = (rd_T48 (rd_T45 l (i : Int)).f3 (j : Int)).f3.length ∧ v109 = .int .i64 (m : Int) ∧ Aside0 (IsB w wr (w.heap.size + 1) (headB a0 a1 a2 a3 l ++ pgsB (l.take i) ++ be8 (rd_T45 l (i : Int)).f0 ++ be8 (rd_T45 l (i : Int)).f1 ++ trB (rd_T45 l (i : Int)).f2 ++ be8 ((rd_T45 l (i : Int)).f3.length : Int) ++ rwsB ((rd_T45 l (i : Int)).f3.take j) ++ be8 (rd_T48 (rd_T45 l (i : Int)).f3 (j : Int)).f0 ++ trB (rd_T48 (rd_T45 l (i : Int)).f3 (j : Int)).f1 ++ trB (rd_T48 (rd_T45 l (i : Int)).f3 (j : Int)).f2 ++ be8 ((rd_T48 (rd_T45 l (i : Int)).f3 (j : Int)).f3.length : Int) ++ bxsB ((rd_T48 (rd_T45 l (i : Int)).f3 (j : Int)).f3.take m))) ∧ Aside0 (Below w.heap.size w wr))
            case atStart => exact ⟨0, by omega, rfl, by simpa [bxsB] using HI, HB⟩
            case round =>
              clear HI HB
              obtain ⟨m, hm, rfl, HI, HB⟩ := hrel
              by_cases hltm : m < (rd_T48 (rd_T45 l (i : Int)).f3 (j : Int)).f3.length
              · have HLb := Aside0.mk (show 48 + (pgsB (l.take i)).length + (25 + (rwsB ((rd_T45 l (i : Int)).f3.take j)).length) + (18 + (bxsB ((rd_T48 (rd_T45 l (i : Int)).f3 (j : Int)).f3.take m)).length) + (80 + (rd_T50 (rd_T48 (rd_T45 l (i : Int)).f3 (j : Int)).f3 (m : Int)).f2.size) + 8 ≤ 140737488355328 from by
                  have h1 := take_flat_le bxB (rd_T48 (rd_T45 l (i : Int)).f3 (j : Int)).f3 (m + 1)
                  have h2 := take_flat bxB z50 (rd_T48 (rd_T45 l (i : Int)).f3 (j : Int)).f3 m hltm
                  have h3 := bxB_length ((rd_T48 (rd_T45 l (i : Int)).f3 (j : Int)).f3.getD m z50)
                  have h4 := HLr.out
                  rw [h2, List.length_append] at h1
                  simp only [rd_T50, Int.toNat_natCast]
                  simp only [bxsB] at h4 ⊢
                  omega)
                have HEb := Aside0.mk (show bxsB ((rd_T48 (rd_T45 l (i : Int)).f3 (j : Int)).f3.take (m + 1)) = bxsB ((rd_T48 (rd_T45 l (i : Int)).f3 (j : Int)).f3.take m) ++ bxB (rd_T50 (rd_T48 (rd_T45 l (i : Int)).f3 (j : Int)).f3 (m : Int)) from take_flat bxB z50 (rd_T48 (rd_T45 l (i : Int)).f3 (j : Int)).f3 m hltm)
                obtain ⟨ad5, hA5, p0, p1, p2, p3, p4, p5, p6, p7, p8, p9⟩ := at_T50 G4.out (m : Int) (by omega) (by omega)
                subst hA5
                simp only [Int.toNat_natCast] at p0 p1 p2 p3 p4 p5 p6 p7 p8 p9
                have q0 := pw_cell_below HB.out p0
                have q1 := pw_cell_below HB.out p1
                have q2 := pw_cell_below HB.out p2
                have q3 := pw_cell_below HB.out p3
                have q4 := pw_cell_below HB.out p4
                have q5 := pw_cell_below HB.out p5
                have q6 := pw_cell_below HB.out p6
                have q7 := pw_cell_below HB.out p7
                have q8 := pw_cell_below HB.out p8
                have q9 := pw_cell_below HB.out p9
                clear p0 p1 p2 p3 p4 p5 p6 p7 p8 p9
                go_wp2_with fail
                refine (box_T (w.heap.size + 1) _ (rd_T50 (rd_T48 (rd_T45 l (i : Int)).f3 (j : Int)).f3 (m : Int)).f0 (rd_T50 (rd_T48 (rd_T45 l (i : Int)).f3 (j : Int)).f3 (m : Int)).f1 (rd_T50 (rd_T48 (rd_T45 l (i : Int)).f3 (j : Int)).f3 (m : Int)).f2 (rd_T50 (rd_T48 (rd_T45 l (i : Int)).f3 (j : Int)).f3 (m : Int)).f3 (rd_T50 (rd_T48 (rd_T45 l (i : Int)).f3 (j : Int)).f3 (m : Int)).f4 (rd_T50 (rd_T48 (rd_T45 l (i : Int)).f3 (j : Int)).f3 (m : Int)).f5 (rd_T50 (rd_T48 (rd_T45 l (i : Int)).f3 (j : Int)).f3 (m : Int)).f6 (rd_T50 (rd_T48 (rd_T45 l (i : Int)).f3 (j : Int)).f3 (m : Int)).f7 (rd_T50 (rd_T48 (rd_T45 l (i : Int)).f3 (j : Int)).f3 (m : Int)).f8 (rd_T50 (rd_T48 (rd_T45 l (i : Int)).f3 (j : Int)).f3 (m : Int)).f9 w _ (HI.out.alloc _) (below_alloc HB.out _) (by have := HLb.out; simp only [List.length_append, be8_length, trB_length, headB_length, List.length_cons, List.length_nil]; omega)).mono ?_
                rintro e W30 ⟨rfl, hI, hB, hK⟩
                have HI2 := Aside0.mk hI
                have HB2 := Aside0.mk hB
                clear hI hB hK q0 q1 q2 q3 q4 q5 q6 q7 q8 q9 HI HB
                go_wp2_with fail
                go_roundg ((rd_T48 (rd_T45 l (i : Int)).f3 (j : Int)).f3.length - (m + 1))
                case measure => omega
                case rel => exact ⟨m + 1, by omega, by go_num, ⟨by have h := HI2.out; rw [HEb.out, ← List.append_assoc]; exact h⟩, HB2⟩
              · have hme : m = (rd_T48 (rd_T45 l (i : Int)).f3 (j : Int)).f3.length := by omega
                have HI2 := Aside0.mk (show IsB w wr (w.heap.size + 1) (headB a0 a1 a2 a3 l ++ pgsB (l.take i) ++ be8 (rd_T45 l (i : Int)).f0 ++ be8 (rd_T45 l (i : Int)).f1 ++ trB (rd_T45 l (i : Int)).f2 ++ be8 ((rd_T45 l (i : Int)).f3.length : Int) ++ rwsB ((rd_T45 l (i : Int)).f3.take (j + 1))) from by
                  have h := HI.out
                  rw [hme, List.take_length] at h
                  rw [HEr.out]
                  simpa only [rwB, List.append_assoc] using h)
                have hmd : decide ((m : Int) < ((rd_T48 (rd_T45 l (i : Int)).f3 (j : Int)).f3.length : Int)) = false := by simp; omega
                clear HI hme
                go_wp2_with fail
                go_roundg ((rd_T45 l (i : Int)).f3.length - (j + 1))
                case measure => omega
                case rel => exact ⟨j + 1, by omega, by go_num, HI2, HB⟩
          · have hje : j = (rd_T45 l (i : Int)).f3.length := by omega
            have HI2 := Aside0.mk (show IsB w wr (w.heap.size + 1) (headB a0 a1 a2 a3 l ++ pgsB (l.take (i + 1))) from by
              have h := HI.out
              rw [hje, List.take_length] at h
              rw [HEp.out]
              simpa only [pgB, List.append_assoc] using h)
            clear HI hje
            go_wp2_with fail
            go_roundg (l.length - (i + 1))
            case measure => omega
            case rel => exact ⟨i + 1, by omega, by go_num, HI2, HB⟩
      · have hie : i = l.length := by omega
        have HI2 := Aside0.mk (show IsB w wr (w.heap.size + 1) (bodyB a0 a1 a2 a3 l) from by
          have h := HI.out
          rw [hie, List.take_length] at h
          exact h)
        clear HI hie
        obtain ⟨v, hb, hg, hR⟩ := HI2.out
        obtain ⟨Av, cv, rfl, hcv, hCv⟩ := Kd.R_reads hR
        have hcell := (blk_cell hb 0).trans rfl
        have HCv := Aside0.mk hCv
        clear hb hg hR hCv
        go_wp2_with fail
        refine (answer_sum.calls _ Av cv (bodyB a0 a1 a2 a3 l) _ wr HCv.out hcv (sum_tells _ (by have := HL.out; omega))).mono ?_
        rintro e W40 ⟨rfl, hD⟩
        have HB4 := Aside0.mk (below_step HB.out hD.below)
        have HI4 := Aside0.mk (HI2.out.below hD.below)
        clear hD hcell HI2 HB
        go_wp2_with fail
        refine (number_T (w.heap.size + 1) _ (wrap64 (fnvs (bodyB a0 a1 a2 a3 l))) w _ HI4.out HB4.out (by have := HL.out; omega)).mono ?_
        rintro e W41 ⟨rfl, hI, hB, hK⟩
        have HB5 := Aside0.mk hB
        obtain ⟨v, hb, hg, hR⟩ := hI
        have hcell := (blk_cell hb 0).trans rfl
        have HR5 := Aside0.mk hR
        clear hB hK hb hg hR HI4 HB4
        go_wp2_with fail
        go_ret2
        exact ⟨v, rfl, HR5.out, HB5.out⟩
abbrev St := List Int × Bool
def nv (s : St) : Int := (numR s.1 s.2).1
def ns (s : St) : St := (numR s.1 s.2).2
def tv (s : St) : ByteArray := (txtR s.1 s.2).1
def ts (s : St) : St := (txtR s.1 s.2).2
def bv (s : St) : Bool := (truR s.1 s.2).1
def bs (s : St) : St := (truR s.1 s.2).2
def Fr (w0 w W : World) (g : Nat) (s : St) (L : List (Nat × Nat × Array Value)) : Prop :=
  IsRd w0 W g s.1 s.2 ∧ Below w0.heap.size w0 W ∧ KeepBut w W g none ∧ ∀ x ∈ L, W.heap[x.1]? = some (.cells x.2.2 x.2.1 (0, 0)) ∧ x.1 ≠ g ∧ w.heap.size ≤ x.1 ∧ w0.heap.size ≤ x.1
section
variable {w0 w W W1 : World} {g : Nat} {s s1 : St} {L : List (Nat × Nat × Array Value)}
theorem Fr.rd (h : Fr w0 w W g s L) : IsRd w0 W g s.1 s.2 := h.1
theorem Fr.bel (h : Fr w0 w W g s L) : Below w0.heap.size w0 W := h.2.1
theorem Fr.keep (h : Fr w0 w W g s L) : KeepBut w W g none := h.2.2.1
theorem Fr.start (h : IsRd w0 w g s.1 s.2) (hB : Below w0.heap.size w0 w) : Fr w0 w w g s [] := ⟨h, hB, KeepBut.refl _ _ _, fun x hx => by simp at hx⟩
theorem Fr.alloc (h : Fr w0 w W g s L) (cs : Array Value) (t : Nat) : Fr w0 w (W.alloc (.cells cs t)) g s ((W.heap.size, t, cs) :: L) := by
  obtain ⟨hI, hB, hK, hL⟩ := h
  refine ⟨hI.alloc _, below_alloc hB _, keep_alloc hK _, fun x hx => ?_⟩
  rcases List.mem_cons.1 hx with rfl | hx
  · exact ⟨heap_alloc_new W _, by have := hI.lt; simp; omega, hK.1, hB.size⟩
  · obtain ⟨h1, h2, h3, h4⟩ := hL x hx
    exact ⟨(Below.heap_alloc W _ _ (blk_lt h1)).trans h1, h2, h3, h4⟩
theorem Fr.call (h : Fr w0 w W g s L) (hI : IsRd w0 W1 g s1.1 s1.2) (hB : Below w0.heap.size w0 W1) (hK : KeepBut W W1 g none) : Fr w0 w W1 g s1 L :=
  ⟨hI, hB, KeepBut.then_ h.2.2.1 hK, fun x hx => by
    obtain ⟨h1, h2, h3, h4⟩ := h.2.2.2 x hx
    exact ⟨hK.blk h1 h2 (by simp), h2, h3, h4⟩⟩
theorem Fr.set (b t : Nat) (cs : Array Value) (h : Fr w0 w W g s ((b, t, cs) :: L)) (hL : ∀ x ∈ L, x.1 ≠ b) (j : Nat) (u : Value) : Fr w0 w (W.setCell ⟨b, j, none⟩ u) g s ((b, t, cs.setIfInBounds j u) :: L) := by
  obtain ⟨⟨A, c, hb, hg, hT⟩, hB, hK, hL'⟩ := h
  obtain ⟨h1, h2, h3, h4⟩ := hL' _ (List.mem_cons_self)
  refine ⟨⟨A, c, blk_far hb (p := ⟨b, j, none⟩) (fun e => h2 e.symm) u, hg, hT⟩, ?_, keep_far hK (p := ⟨b, j, none⟩) h3 u, fun x hx => ?_⟩
  · exact hB.setCell (p := ⟨b, j, none⟩) h4 u
  · rcases List.mem_cons.1 hx with rfl | hx
    · exact ⟨blk_set h1 j u, h2, h3, h4⟩
    · obtain ⟨k1, k2, k3, k4⟩ := hL' x (List.mem_cons_of_mem _ hx)
      exact ⟨blk_far k1 (p := ⟨b, j, none⟩) (hL x hx) u, k2, k3, k4⟩
theorem Fr.sub {L' : List (Nat × Nat × Array Value)} (h : Fr w0 w W g s L) (hs : ∀ x ∈ L', x ∈ L) : Fr w0 w W g s L' := ⟨h.1, h.2.1, h.2.2.1, fun x hx => h.2.2.2 x (hs x hx)⟩
theorem Fr.blk (h : Fr w0 w W g s L) {b t : Nat} {cs : Array Value} (hm : (b, t, cs) ∈ L) : W.heap[b]? = some (.cells cs t (0, 0)) := (h.2.2.2 _ hm).1
theorem Fr.ge (h : Fr w0 w W g s L) {b t : Nat} {cs : Array Value} (hm : (b, t, cs) ∈ L) : w.heap.size ≤ b := (h.2.2.2 _ hm).2.2.1
theorem Fr.lt (h : Fr w0 w W g s L) {b t : Nat} {cs : Array Value} (hm : (b, t, cs) ∈ L) : b < W.heap.size := blk_lt (h.blk hm)
end
theorem num_s (s : St) {w0 w W : World} {g : Nat} {L : List (Nat × Nat × Array Value)} (h : Fr w0 w W g s L) :
    Calls Try.prog 30 #[.pointer (some ⟨g, 0, none⟩)] W fun e W' => e = .returned (.int .i64 (nv s)) ∧ Fr w0 w W' g (ns s) L :=
  (num_calls g s.1 s.2 w0 W h.rd h.bel).mono fun _ _ ⟨h1, h2, h3, h4⟩ => ⟨h1, h.call h2 h3 h4⟩
theorem text_s (s : St) {w0 w W : World} {g : Nat} {L : List (Nat × Nat × Array Value)} (h : Fr w0 w W g s L) :
    Calls Try.prog 49 #[.pointer (some ⟨g, 0, none⟩)] W fun e W' => e = .returned (.string (tv s)) ∧ Fr w0 w W' g (ts s) L :=
  (text_rd g s.1 s.2 w0 W h.rd h.bel).mono fun _ _ ⟨h1, h2, h3, h4⟩ => ⟨h1, h.call h2 h3 h4⟩
theorem truth_s (s : St) {w0 w W : World} {g : Nat} {L : List (Nat × Nat × Array Value)} (h : Fr w0 w W g s L) :
    Calls Try.prog 41 #[.pointer (some ⟨g, 0, none⟩)] W fun e W' => e = .returned (.bool (bv s)) ∧ Fr w0 w W' g (bs s) L :=
  (truth_rd g s.1 s.2 w0 W h.rd h.bel).mono fun _ _ ⟨h1, h2, h3, h4⟩ => ⟨h1, h.call h2 h3 h4⟩
def bxS3 (s : St) : St := ts (ns (ns s))
def bxS (s : St) : St := ns (ns (ns (ns (ns (ns (ns (bxS3 s)))))))
def bxV (s : St) : S50 := ⟨nv s, nv (ns s), tv (ns (ns s)), nv (bxS3 s), nv (ns (bxS3 s)), nv (ns (ns (bxS3 s))), nv (ns (ns (ns (bxS3 s)))), nv (ns (ns (ns (ns (bxS3 s))))), nv (ns (ns (ns (ns (ns (bxS3 s)))))), nv (ns (ns (ns (ns (ns (ns (bxS3 s))))))) ⟩
def bxVal (b : S50) : Value := .agg #[.int .i64 b.f0, .int .i64 b.f1, .string b.f2, .int .i64 b.f3, .int .i64 b.f4, .int .i64 b.f5, .int .i64 b.f6, .int .i64 b.f7, .int .i64 b.f8, .int .i64 b.f9]
set_option maxHeartbeats 1000000 in
set_option maxRecDepth 100000 in
theorem box_s (s : St) {w0 w W : World} {g : Nat} {L : List (Nat × Nat × Array Value)} (h : Fr w0 w W g s L) :
    Calls Try.prog 47 #[.pointer (some ⟨g, 0, none⟩)] W fun e W' => e = .returned (bxVal (bxV s)) ∧ Fr w0 w W' g (bxS s) L ∧ KeepBut W W' g none := by
  have HF := Aside0.mk h
  have H0 := Aside0.mk (Fr.start h.rd h.bel)
  clear h
  go_enter Try.func47, Try.ntmps47
  go_wp2_with fail
  refine (num_s s (Fr.alloc H0.out _ _)).mono ?_
  rintro e W1 ⟨rfl, h⟩
  have H1 := Aside0.mk h
  clear h
  go_wp2_with fail
  refine (num_s _ H1.out).mono ?_
  rintro e W2 ⟨rfl, h⟩
  have H2 := Aside0.mk h
  clear h H1
  go_wp2_with fail
  refine (text_s _ H2.out).mono ?_
  rintro e W3 ⟨rfl, h⟩
  have H3 := Aside0.mk h
  clear h H2
  go_wp2_with fail
  refine (num_s _ (Fr.alloc H3.out _ _)).mono ?_
  rintro e W4 ⟨rfl, h⟩
  have H4 := Aside0.mk h
  have hlt := Aside0.mk (H3.out.lt (List.mem_singleton.2 rfl))
  clear h
  go_wp2_with fail
  refine (num_s _ H4.out).mono ?_
  rintro e W5 ⟨rfl, h⟩
  have H5 := Aside0.mk h
  clear h H4
  go_wp2_with fail
  refine (num_s _ H5.out).mono ?_
  rintro e W6 ⟨rfl, h⟩
  have H6 := Aside0.mk h
  have hc := blk_cell (h.blk (List.mem_cons_self))
  have hf := blk_frozen (h.blk (List.mem_cons_self))
  clear h H5
  have hL : ∀ x ∈ [(W.heap.size, 50, #[Value.int IntKind.i64 0, Value.int IntKind.i64 0, Value.string { data := #[] }, Value.int IntKind.i64 0, Value.int IntKind.i64 0, Value.int IntKind.i64 0, Value.int IntKind.i64 0, Value.int IntKind.i64 0, Value.int IntKind.i64 0, Value.int IntKind.i64 0])], x.1 ≠ W3.heap.size := by
    intro x hx
    rw [List.mem_singleton.1 hx]
    have := hlt.out
    simp only
    omega
  have HL := Aside0.mk hL
  have H6' := Aside0.mk (Fr.set _ _ _ (Fr.set _ _ _ (Fr.set _ _ _ H6.out hL 3 (.int .i64 (nv (ts (ns (ns s)))))) hL 4 (.int .i64 (nv (ns (ts (ns (ns s))))))) hL 5 (.int .i64 (nv (ns (ns (ts (ns (ns s))))))))
  clear hL hlt
  go_wp2_with fail
  refine (num_s _ H6'.out).mono ?_
  rintro e W7 ⟨rfl, h⟩
  have H7 := Aside0.mk h
  clear h H6 H6' hc hf
  go_wp2_with fail
  refine (num_s _ H7.out).mono ?_
  rintro e W8 ⟨rfl, h⟩
  have H8 := Aside0.mk h
  have hc := blk_cell (h.blk (List.mem_cons_self))
  have hf := blk_frozen (h.blk (List.mem_cons_self))
  have H8' := Aside0.mk (Fr.set _ _ _ (Fr.set _ _ _ H8.out HL.out 6 (.int .i64 (nv (ns (ns (ns (ts (ns (ns s))))))))) HL.out 7 (.int .i64 (nv (ns (ns (ns (ns (ts (ns (ns s))))))))))
  clear h H7
  go_wp2_with fail
  refine (num_s _ H8'.out).mono ?_
  rintro e W9 ⟨rfl, h⟩
  have H9 := Aside0.mk h
  clear h H8 H8' hc hf
  go_wp2_with fail
  refine (num_s _ H9.out).mono ?_
  rintro e W10 ⟨rfl, h⟩
  have H10 := Aside0.mk (Fr.set _ _ _ (Fr.set _ _ _ h HL.out 8 (.int .i64 (nv (ns (ns (ns (ns (ns (ts (ns (ns s))))))))))) HL.out 9 (.int .i64 (nv (ns (ns (ns (ns (ns (ns (ts (ns (ns s))))))))))))
  have hc := blk_cell (h.blk (List.mem_cons_self))
  have hf := blk_frozen (h.blk (List.mem_cons_self))
  have hc0 := blk_cell (h.blk (List.mem_cons_of_mem _ (List.mem_singleton.2 rfl)))
  have hf0 := blk_frozen (h.blk (List.mem_cons_of_mem _ (List.mem_singleton.2 rfl)))
  clear h H9
  go_upto_region 5 with (fail)
  clear hc hf hc0 hf0
  obtain ⟨W11, hW⟩ : ∃ X, ((W10.setCell ⟨W3.heap.size, 8, none⟩ (.int .i64 (nv (ns (ns (ns (ns (ns (ts (ns (ns s))))))))))).setCell ⟨W3.heap.size, 9, none⟩ (.int .i64 (nv (ns (ns (ns (ns (ns (ns (ts (ns (ns s)))))))))))) = X := ⟨_, rfl⟩
  have H11 : Fr w0 W W11 g (bxS s) [(W3.heap.size, 50, #[.int .i64 (nv s), .int .i64 (nv (ns s)), .string (tv (ns (ns s))), .int .i64 (nv (ts (ns (ns s)))), .int .i64 (nv (ns (ts (ns (ns s))))), .int .i64 (nv (ns (ns (ts (ns (ns s)))))), .int .i64 (nv (ns (ns (ns (ts (ns (ns s))))))), .int .i64 (nv (ns (ns (ns (ns (ts (ns (ns s)))))))), .int .i64 (nv (ns (ns (ns (ns (ns (ts (ns (ns s))))))))), .int .i64 (nv (ns (ns (ns (ns (ns (ns (ts (ns (ns s))))))))))]), (W.heap.size, 50, #[Value.int IntKind.i64 0, Value.int IntKind.i64 0, Value.string { data := #[] }, Value.int IntKind.i64 0, Value.int IntKind.i64 0, Value.int IntKind.i64 0, Value.int IntKind.i64 0, Value.int IntKind.i64 0, Value.int IntKind.i64 0, Value.int IntKind.i64 0])] := by
    rw [← hW]; have h := H10.out; simp only [List.setIfInBounds_toArray, List.set_cons_zero, List.set_cons_succ] at h; exact h
  rw [hW]
  have HE := Aside0.mk H11
  have hc := blk_cell (H11.blk (List.mem_cons_self))
  have hf := blk_frozen (H11.blk (List.mem_cons_self))
  have hc0 := blk_cell (H11.blk (List.mem_cons_of_mem _ (List.mem_singleton.2 rfl)))
  have hf0 := blk_frozen (H11.blk (List.mem_cons_of_mem _ (List.mem_singleton.2 rfl)))
  have H12 := Aside0.mk (Fr.set _ _ _ (Fr.set _ _ _ (Fr.set _ _ _ (Fr.set _ _ _ (Fr.set _ _ _ (Fr.set _ _ _ (Fr.set _ _ _ (Fr.set _ _ _ (Fr.set _ _ _ (Fr.set _ _ _ (HE.out.sub (L' := [(W.heap.size, 50, #[Value.int IntKind.i64 0, Value.int IntKind.i64 0, Value.string { data := #[] }, Value.int IntKind.i64 0, Value.int IntKind.i64 0, Value.int IntKind.i64 0, Value.int IntKind.i64 0, Value.int IntKind.i64 0, Value.int IntKind.i64 0, Value.int IntKind.i64 0])]) (fun x hx => List.mem_cons_of_mem _ hx)) (fun x hx => absurd hx (by simp)) 0 (.int .i64 (nv s))) (fun x hx => absurd hx (by simp)) 1 (.int .i64 (nv (ns s)))) (fun x hx => absurd hx (by simp)) 2 (.string (tv (ns (ns s))))) (fun x hx => absurd hx (by simp)) 3 (.int .i64 (nv (ts (ns (ns s)))))) (fun x hx => absurd hx (by simp)) 4 (.int .i64 (nv (ns (ts (ns (ns s))))))) (fun x hx => absurd hx (by simp)) 5 (.int .i64 (nv (ns (ns (ts (ns (ns s)))))))) (fun x hx => absurd hx (by simp)) 6 (.int .i64 (nv (ns (ns (ns (ts (ns (ns s))))))))) (fun x hx => absurd hx (by simp)) 7 (.int .i64 (nv (ns (ns (ns (ns (ts (ns (ns s)))))))))) (fun x hx => absurd hx (by simp)) 8 (.int .i64 (nv (ns (ns (ns (ns (ns (ts (ns (ns s))))))))))) (fun x hx => absurd hx (by simp)) 9 (.int .i64 (nv (ns (ns (ns (ns (ns (ns (ts (ns (ns s))))))))))))
  clear hW H10 H11 HL
  go_wp2
  obtain ⟨W12, hW⟩ : ∃ X, ((((((((((W11.setCell ⟨W.heap.size, 0, none⟩ (.int .i64 (nv s))).setCell ⟨W.heap.size, 1, none⟩ (.int .i64 (nv (ns s)))).setCell ⟨W.heap.size, 2, none⟩ (.string (tv (ns (ns s))))).setCell ⟨W.heap.size, 3, none⟩ (.int .i64 (nv (ts (ns (ns s)))))).setCell ⟨W.heap.size, 4, none⟩ (.int .i64 (nv (ns (ts (ns (ns s))))))).setCell ⟨W.heap.size, 5, none⟩ (.int .i64 (nv (ns (ns (ts (ns (ns s)))))))).setCell ⟨W.heap.size, 6, none⟩ (.int .i64 (nv (ns (ns (ns (ts (ns (ns s))))))))).setCell ⟨W.heap.size, 7, none⟩ (.int .i64 (nv (ns (ns (ns (ns (ts (ns (ns s)))))))))).setCell ⟨W.heap.size, 8, none⟩ (.int .i64 (nv (ns (ns (ns (ns (ns (ts (ns (ns s))))))))))).setCell ⟨W.heap.size, 9, none⟩ (.int .i64 (nv (ns (ns (ns (ns (ns (ns (ts (ns (ns s)))))))))))) = X := ⟨_, rfl⟩
  have H13 : Fr w0 W W12 g (bxS s) [(W.heap.size, 50, #[.int .i64 (nv s), .int .i64 (nv (ns s)), .string (tv (ns (ns s))), .int .i64 (nv (ts (ns (ns s)))), .int .i64 (nv (ns (ts (ns (ns s))))), .int .i64 (nv (ns (ns (ts (ns (ns s)))))), .int .i64 (nv (ns (ns (ns (ts (ns (ns s))))))), .int .i64 (nv (ns (ns (ns (ns (ts (ns (ns s)))))))), .int .i64 (nv (ns (ns (ns (ns (ns (ts (ns (ns s))))))))), .int .i64 (nv (ns (ns (ns (ns (ns (ns (ts (ns (ns s))))))))))])] := by
    rw [← hW]; have h := H12.out; simp only [List.setIfInBounds_toArray, List.set_cons_zero, List.set_cons_succ] at h; exact h
  rw [hW]
  clear hc hf hc0 hf0 H12 hW
  have hc := blk_cell (H13.blk (List.mem_cons_self))
  have HFF := Aside0.mk (HF.out.call H13.1 H13.2.1 H13.2.2.1)
  have HKK := Aside0.mk H13.2.2.1
  clear H13 HE HF H0
  refine bodyPost_ret (v := bxVal (bxV s)) (by simp [results, Try.results47, go_sem, hc, bxVal, bxV, bxS3]) rfl ⟨rfl, HFF.out, HKK.out⟩
section
variable {w0 w W W1 : World} {g : Nat} {s s1 : St} {L : List (Nat × Nat × Array Value)}
theorem Fr.drew (h : Fr w0 w W g s L) : Fr w0 w W.drew g s L := ⟨h.1, below_drew h.2.1, h.2.2.1, h.2.2.2⟩
theorem Fr.grown {α : Type} {d : Kd α} {e base : Nat} {ok : Nat → Prop} {v : Value} {xs : List α} (h : Fr w0 w W g s L) (hR : d.R e W base ok v xs) (hbase : w.heap.size ≤ base) (hg : W.grownBy W1 v.ownBlock) (hB : Below w0.heap.size w0 W1)
    (h70 : e ≠ 70) (hT : ∀ x ∈ L, e ≠ x.2.1) : Fr w0 w W1 g s L := by
  obtain ⟨⟨A, c, hb, hgg, hT0⟩, _, hK, hL⟩ := h
  refine ⟨⟨A, c, blk_grown hb hg (Kd.R_ne hR hb h70), hgg, hT0⟩, hB, KeepBut.trans hK (KeepBut.of_grown hg g) ?_, fun x hx => ?_⟩
  · rcases Kd.R_base2 hR with h1 | ⟨k, h1, h2⟩
    · exact .inl h1
    · exact .inr ⟨k, h1, Nat.le_trans hbase h2⟩
  · obtain ⟨h1, h2, h3, h4⟩ := hL x hx
    exact ⟨blk_grown h1 hg (Kd.R_ne hR h1 (hT x hx)), h2, h3, h4⟩
end
theorem many_s (least : Int) (hl : 1 ≤ least) (s : St) {w0 w W : World} {g : Nat} {L : List (Nat × Nat × Array Value)} (h : Fr w0 w W g s L) :
    Calls Try.prog 31 #[.pointer (some ⟨g, 0, none⟩), .int .i64 least] W fun e W' => e = .returned (.int .i64 (mnyR least s.1 s.2).1) ∧ Fr w0 w W' g (mnyR least s.1 s.2).2 L :=
  (many_calls g least hl s.1 s.2 w0 W h.rd h.bel).mono fun _ _ ⟨h1, h2, h3, h4⟩ => ⟨h1, h.call h2 h3 h4⟩
theorem tk_len (n : Int) (l : List Int) (b : Bool) : (tk n l b).2.1.length ≤ l.length := by
  unfold tk; split <;> simp
theorem ns_len (s : St) : (ns s).1.length ≤ s.1.length := tk_len _ _ _
theorem ts_len (s : St) : (ts s).1.length ≤ s.1.length := Nat.le_trans (tk_len _ _ _) (tk_len _ _ _)
theorem bs_len (s : St) : (bs s).1.length ≤ s.1.length := by
  unfold bs truR; split <;> exact tk_len _ _ _
theorem mny_len (least : Int) (s : St) : (mnyR least s.1 s.2).2.1.length ≤ s.1.length := by
  unfold mnyR; split <;> exact tk_len _ _ _
theorem bxS_len (s : St) : (bxS s).1.length ≤ s.1.length := by
  unfold bxS bxS3
  repeat (first | exact Nat.le_trans (ns_len _) (by repeat (first | exact Nat.le_refl _ | exact ns_len _ | exact ts_len _ | refine Nat.le_trans (ns_len _) ?_ | refine Nat.le_trans (ts_len _) ?_)))
theorem mny_range (least : Int) (hl : 1 ≤ least) (s : St) : 0 ≤ (mnyR least s.1 s.2).1 ∧ (mnyR least s.1 s.2).1 ≤ ((mnyR least s.1 s.2).2.1.length : Int) / least := by
  unfold mnyR
  split
  · exact ⟨Int.le_refl _, Int.ediv_nonneg (by omega) (by omega)⟩
  · rename_i h
    exact ⟨by omega, by omega⟩
def bxsR : Nat → St → List S50 × St
  | 0, s => ([], s)
  | n + 1, s => if s.2 = true then ([], s) else (bxV s :: (bxsR n (bxS s)).1, (bxsR n (bxS s)).2)
def rwS (s : St) : St := bs (bs (ns s))
def rwM (s : St) : Int × St := mnyR 72 (rwS s).1 (rwS s).2
def rwV (s : St) : S48 := ⟨nv s, bv (ns s), bv (bs (ns s)), (bxsR (rwM s).1.toNat (rwM s).2).1⟩
def rwE (s : St) : St := (bxsR (rwM s).1.toNat (rwM s).2).2
theorem k50_cells (b : S50) (w : World) (base : Nat) (ok : Nat → Prop) : k50.M w base ok b [.int .i64 b.f0, .int .i64 b.f1, .string b.f2, .int .i64 b.f3, .int .i64 b.f4, .int .i64 b.f5, .int .i64 b.f6, .int .i64 b.f7, .int .i64 b.f8, .int .i64 b.f9] := k50_mkM w base ok b
theorem R_keepG {α : Type} {d : Kd α} {e : Nat} {w w1 : World} {base : Nat} {v : Value} {xs : List α} {g : Nat} (h : d.R e w base (fun k => base ≤ k) v xs) (hk : KeepBut w w1 g none) (hg : g < base) : d.R e w1 base (fun k => base ≤ k) v xs :=
  Kd.R_keep h hk (fun k hk => by omega)
theorem info50 : (Try.prog.info? 50).map (fun i => (i.zero, i.size, i.bytes)) = some (some (bxVal z50), 10, 88) := by kernel_rfl
set_option maxHeartbeats 1000000 in
set_option maxRecDepth 100000 in
theorem row_s (s : St) {w0 w W : World} {g : Nat} {L : List (Nat × Nat × Array Value)} (h : Fr w0 w W g s L) (hlen : s.1.length ≤ 1099511627776) :
    Calls Try.prog 42 #[.pointer (some ⟨g, 0, none⟩)] W fun e W' => ∃ v, e = .returned (.agg #[.int .i64 (rwV s).f0, .bool (rwV s).f1, .bool (rwV s).f2, v]) ∧
      k50.R 50 W' W.heap.size (fun k => W.heap.size ≤ k) v (rwV s).f3 ∧ Fr w0 w W' g (rwE s) L ∧ KeepBut W W' g none := by
  have HF := Aside0.mk h
  have H0 := Aside0.mk (Fr.start h.rd h.bel)
  have hgW := Aside0.mk h.rd.lt
  clear h
  go_enter Try.func42, Try.ntmps42
  go_wp2_with fail
  refine (num_s s (Fr.alloc H0.out _ _)).mono ?_
  rintro e W1 ⟨rfl, h⟩
  have H1 := Aside0.mk h
  clear h
  go_wp2_with fail
  refine (truth_s _ H1.out).mono ?_
  rintro e W2 ⟨rfl, h⟩
  have H2 := Aside0.mk h
  clear h H1
  go_wp2_with fail
  refine (truth_s _ H2.out).mono ?_
  rintro e W3 ⟨rfl, h⟩
  have H3 := Aside0.mk h
  clear h H2
  go_wp2_with fail
  refine (many_s 72 (by omega) _ (Fr.alloc H3.out _ _)).mono ?_
  rintro e W4 ⟨rfl, h⟩
  have hlt := Aside0.mk (H3.out.lt (List.mem_singleton.2 rfl))
  have hm := mny_range 72 (by omega) (bs (bs (ns s)))
  have hm2 := mny_len 72 (bs (bs (ns s)))
  have hm3 := bs_len (bs (ns s))
  have hm4 := bs_len (ns s)
  have hm5 := ns_len s
  obtain ⟨n0, hn0⟩ := Int.eq_ofNat_of_zero_le hm.1
  have hn1 : n0 ≤ 15270994830 := by omega
  have HN := Aside0.mk hn0
  have hn0' : (mnyR 72 (bs (bs (ns s))).1 (bs (bs (ns s))).2).1 = (n0 : Int) := hn0
  rw [hn0']
  have H4 := Aside0.mk h
  clear h H3 hm hm2 hm3 hm4 hm5 hn0 hn0'
  go_wp2_with fail
  go_loopg [4] n0 (fun kq v4 wr => ∃ (xs : List S50) (s' : St) (vB : Value), kq ≤ n0 ∧ xs.length + kq = n0 ∧ v4 = .int .i64 (kq : Int) ∧
    Aside0 (Fr w0 W wr g s' [(W3.heap.size, 48, #[.int .i64 (nv s), .bool (bv (ns s)), .bool (bv (bs (ns s))), vB]), (W.heap.size, 48, #[.int .i64 0, .bool false, .bool false, .slice none 0 0])]) ∧
    Aside0 (k50.R 50 wr W.heap.size (fun k => W.heap.size ≤ k) vB xs) ∧ Aside0 (xs ++ (bxsR kq s').1 = (rwV s).f3 ∧ (bxsR kq s').2 = rwE s))
  case atStart => exact ⟨[], _, .slice none 0 0, Nat.le_refl _, by simp, rfl, H4, ⟨Kd.R_nil _ _ _ _ _⟩, ⟨by simp only [rwV, rwM, rwS, HN.out, List.nil_append, Int.toNat_natCast], by simp only [rwE, rwM, rwS, HN.out, Int.toNat_natCast]⟩⟩
  case round =>
    clear H4
    obtain ⟨xs, s', vB, hk, hx, rfl, HFr, HR, HE⟩ := hrel
    have hb3 := HFr.out.blk (List.mem_cons_self)
    have hc := blk_cell hb3
    have hf := blk_frozen hb3
    obtain ⟨A, c, hb, hg0, hT⟩ := HFr.out.rd
    have hcg := blk_cell hb
    clear hb3 hb hT
    cases gk with
    | zero =>
      obtain ⟨Av, cv, rfl⟩ := Kd.R_slice HR.out
      have EQ := Aside0.mk (show xs = (rwV s).f3 ∧ s' = rwE s from by have h := HE.out; simpa [bxsR] using h)
      clear HE
      have hb0 := HFr.out.blk (List.mem_cons_of_mem _ (List.mem_singleton.2 rfl))
      have hc0 := blk_cell hb0
      have hf0 := blk_frozen hb0
      have H12 := Aside0.mk (Fr.set _ _ _ (Fr.set _ _ _ (Fr.set _ _ _ (Fr.set _ _ _ (HFr.out.sub (L' := [(W.heap.size, 48, #[Value.int IntKind.i64 0, Value.bool false, Value.bool false, Value.slice none 0 0])]) (fun x hx => List.mem_cons_of_mem _ hx)) (fun x hx => absurd hx (by simp)) 0 (.int .i64 (nv s))) (fun x hx => absurd hx (by simp)) 1 (.bool (bv (ns s)))) (fun x hx => absurd hx (by simp)) 2 (.bool (bv (bs (ns s))))) (fun x hx => absurd hx (by simp)) 3 (.slice Av xs.length cv))
      have R12 := Aside0.mk (Kd.R_far (p := ⟨W.heap.size, 3, none⟩) (Kd.R_far (p := ⟨W.heap.size, 2, none⟩) (Kd.R_far (p := ⟨W.heap.size, 1, none⟩) (Kd.R_far (p := ⟨W.heap.size, 0, none⟩) (Kd.R_types HR.out (HFr.out.blk (List.mem_cons_of_mem _ (List.mem_singleton.2 rfl))) (by decide)) (fun _ hk => hk.2) (.int .i64 (nv s))) (fun _ hk => hk.2) (.bool (bv (ns s)))) (fun _ hk => hk.2) (.bool (bv (bs (ns s))))) (fun _ hk => hk.2) (.slice Av xs.length cv))
      clear hb0
      go_wp2
      obtain ⟨W12, hW⟩ : ∃ X, ((((wr.setCell ⟨W.heap.size, 0, none⟩ (.int .i64 (nv s))).setCell ⟨W.heap.size, 1, none⟩ (.bool (bv (ns s)))).setCell ⟨W.heap.size, 2, none⟩ (.bool (bv (bs (ns s))))).setCell ⟨W.heap.size, 3, none⟩ (.slice Av xs.length cv)) = X := ⟨_, rfl⟩
      have H13 : Fr w0 W W12 g s' [(W.heap.size, 48, #[.int .i64 (nv s), .bool (bv (ns s)), .bool (bv (bs (ns s))), .slice Av xs.length cv])] := by
        rw [← hW]; have h := H12.out; simp only [List.setIfInBounds_toArray, List.set_cons_zero, List.set_cons_succ] at h; exact h
      have R13 : k50.R 50 W12 W.heap.size (fun k => W.heap.size ≤ k) (.slice Av xs.length cv) xs := by
        rw [← hW]; exact Kd.R_mono R12.out (fun _ hk => hk.1)
      rw [hW]
      clear hc hf hc0 hf0 H12 hW hcg
      have hc := blk_cell (H13.blk (List.mem_cons_self))
      have HFF := Aside0.mk (HF.out.call H13.1 H13.2.1 H13.2.2.1)
      have RR := Aside0.mk R13
      have HKK := Aside0.mk H13.2.2.1
      clear H13 HF H0 HFr HR R13 R12
      refine bodyPost_ret (v := .agg #[.int .i64 (nv s), .bool (bv (ns s)), .bool (bv (bs (ns s))), .slice Av xs.length cv]) (by simp [results, Try.results42, go_sem, hc]) rfl ⟨_, rfl, ?_, ?_, HKK.out⟩
      · rw [← EQ.out.1]; exact RR.out
      · rw [← EQ.out.2]; exact HFF.out
    | succ k =>
      obtain ⟨Av, cv, rfl⟩ := Kd.R_slice HR.out
      cases hs2 : s'.2 with
      | true =>
        rw [hs2] at hcg
        have EQ := Aside0.mk (show xs = (rwV s).f3 ∧ s' = rwE s from by have h := HE.out; simpa [bxsR, hs2] using h)
        clear HE hs2
        have hb0 := HFr.out.blk (List.mem_cons_of_mem _ (List.mem_singleton.2 rfl))
        have hc0 := blk_cell hb0
        have hf0 := blk_frozen hb0
        have H12 := Aside0.mk (Fr.set _ _ _ (Fr.set _ _ _ (Fr.set _ _ _ (Fr.set _ _ _ (HFr.out.sub (L' := [(W.heap.size, 48, #[Value.int IntKind.i64 0, Value.bool false, Value.bool false, Value.slice none 0 0])]) (fun x hx => List.mem_cons_of_mem _ hx)) (fun x hx => absurd hx (by simp)) 0 (.int .i64 (nv s))) (fun x hx => absurd hx (by simp)) 1 (.bool (bv (ns s)))) (fun x hx => absurd hx (by simp)) 2 (.bool (bv (bs (ns s))))) (fun x hx => absurd hx (by simp)) 3 (.slice Av xs.length cv))
        have R12 := Aside0.mk (Kd.R_far (p := ⟨W.heap.size, 3, none⟩) (Kd.R_far (p := ⟨W.heap.size, 2, none⟩) (Kd.R_far (p := ⟨W.heap.size, 1, none⟩) (Kd.R_far (p := ⟨W.heap.size, 0, none⟩) (Kd.R_types HR.out (HFr.out.blk (List.mem_cons_of_mem _ (List.mem_singleton.2 rfl))) (by decide)) (fun _ hk => hk.2) (.int .i64 (nv s))) (fun _ hk => hk.2) (.bool (bv (ns s)))) (fun _ hk => hk.2) (.bool (bv (bs (ns s))))) (fun _ hk => hk.2) (.slice Av xs.length cv))
        clear hb0
        go_wp2
        obtain ⟨W12, hW⟩ : ∃ X, ((((wr.setCell ⟨W.heap.size, 0, none⟩ (.int .i64 (nv s))).setCell ⟨W.heap.size, 1, none⟩ (.bool (bv (ns s)))).setCell ⟨W.heap.size, 2, none⟩ (.bool (bv (bs (ns s))))).setCell ⟨W.heap.size, 3, none⟩ (.slice Av xs.length cv)) = X := ⟨_, rfl⟩
        have H13 : Fr w0 W W12 g s' [(W.heap.size, 48, #[.int .i64 (nv s), .bool (bv (ns s)), .bool (bv (bs (ns s))), .slice Av xs.length cv])] := by
          rw [← hW]; have h := H12.out; simp only [List.setIfInBounds_toArray, List.set_cons_zero, List.set_cons_succ] at h; exact h
        have R13 : k50.R 50 W12 W.heap.size (fun k => W.heap.size ≤ k) (.slice Av xs.length cv) xs := by
          rw [← hW]; exact Kd.R_mono R12.out (fun _ hk => hk.1)
        rw [hW]
        clear hc hf hc0 hf0 H12 hW hcg
        have hc := blk_cell (H13.blk (List.mem_cons_self))
        have HFF := Aside0.mk (HF.out.call H13.1 H13.2.1 H13.2.2.1)
        have RR := Aside0.mk R13
        have HKK := Aside0.mk H13.2.2.1
        clear H13 HF H0 HFr HR R13 R12
        refine bodyPost_ret (v := .agg #[.int .i64 (nv s), .bool (bv (ns s)), .bool (bv (bs (ns s))), .slice Av xs.length cv]) (by simp [results, Try.results42, go_sem, hc]) rfl ⟨_, rfl, ?_, ?_, HKK.out⟩
        · rw [← EQ.out.1]; exact RR.out
        · rw [← EQ.out.2]; exact HFF.out
      | false =>
        rw [hs2] at hcg
        have EQ := Aside0.mk (show xs ++ (bxV s' :: (bxsR k (bxS s')).1) = (rwV s).f3 ∧ (bxsR k (bxS s')).2 = rwE s from by have h := HE.out; simpa [bxsR, hs2] using h)
        clear HE hs2
        have HFd := Aside0.mk HFr.out.drew
        have HRd := Aside0.mk (Kd.R_drew HR.out)
        have hcd : ∀ (i : Nat), wr.drew.cell? ⟨W3.heap.size, i, none⟩ = #[.int .i64 (nv s), .bool (bv (ns s)), .bool (bv (bs (ns s))), .slice Av xs.length cv][i]? := hc
        go_wp2_with fail
        clear hcg hf hc
        go_region_law (first
          | (refine goes_ (N := some 28) Try.func47 (by kernel_rfl) rfl #[.pointer (some ⟨g, 0, none⟩)] (by rfl) rfl rfl (by simp only [List.map_toArray, List.map_cons, List.map_nil]; rfl) ?_; refine (box_s s' HFd.out).mono ?_; rintro e w5 ⟨rfl, h5, k5⟩; refine ⟨_, rfl, ?_⟩; dsimp only [bxVal]; have H5 := Aside0.mk h5; have R5 := Aside0.mk (R_keepG HRd.out k5 hgW.out); have hc5 := blk_cell (h5.blk (List.mem_cons_self)); have hc5a := fun (o : Obj) (i : Nat) => (World.cell?_alloc_lt w5 o ⟨W3.heap.size, i, none⟩ (H5.out.lt (List.mem_cons_self))).trans (hc5 i); clear h5 k5)
          | (refine Kd.R_append_step k50 (w0 := w5) W.heap.size rfl (.tmp 26) (.tmp 29) 46 50 (bxVal z50) 88 rfl Try.underlying46 info50 rfl (by decide) (by decide) (.slice Av xs.length cv) xs (bxV s') [.int .i64 (bxV s').f0, .int .i64 (bxV s').f1, .string (bxV s').f2, .int .i64 (bxV s').f3, .int .i64 (bxV s').f4, .int .i64 (bxV s').f5, .int .i64 (bxV s').f6, .int .i64 (bxV s').f7, .int .i64 (bxV s').f8, .int .i64 (bxV s').f9] (fun k => W.heap.size ≤ k) (fun _ => False) rfl rfl (k50_cells _ _ _ _) (fun k hk => hk.elim) (fun k hk => Nat.le_trans H5.out.keep.1 hk) R5.out (Below.refl _ _) H5.out.keep.1 (by omega) ?_; intro v1 w6 HR6 HB6 HG6 HD6; obtain ⟨A6, c6, hv6⟩ := Kd.R_slice HR6; subst hv6; have H6 := Aside0.mk (Fr.grown H5.out R5.out (Nat.le_refl _) HG6 (H5.out.bel.trans (HB6.mono H0.out.bel.size)) (by decide) (by intro x hx; simp only [List.mem_cons, List.not_mem_nil, or_false] at hx; rcases hx with rfl | rfl <;> exact (by decide : (50 : Nat) ≠ 48))); have R6 := Aside0.mk HR6; have hc6 := blk_cell (H6.out.blk (List.mem_cons_self)); have hf6 := blk_frozen (H6.out.blk (List.mem_cons_self)); clear HR6 HB6 HG6 HD6))
        all_goals
          have H7 := Aside0.mk (Fr.set _ _ _ H6.out (by intro x hx; rw [List.mem_singleton.1 hx]; have := hlt.out; simp only; omega) 3 (.slice A6 (xs ++ [bxV s']).length c6))
          have R7 := Aside0.mk (Kd.R_set R6.out (H6.out.blk (List.mem_cons_self)) (by decide) 3 (.slice A6 (xs ++ [bxV s']).length c6))
          simp only [List.length_append, List.length_cons, List.length_nil, Nat.zero_add] at H7 R7
          go_wp2_with fail
          go_roundg k
          case measure => omega
          case rel => exact ⟨xs ++ [bxV s'], bxS s', _, by omega, by simp; omega, by go_num, H7, ⟨by simpa using R7.out⟩, ⟨by rw [List.append_assoc]; exact EQ.out.1, EQ.out.2⟩⟩
theorem bxsR_len : ∀ (n : Nat) (s : St), (bxsR n s).2.1.length ≤ s.1.length
  | 0, s => Nat.le_refl _
  | n + 1, s => by
    unfold bxsR
    split
    · exact Nat.le_refl _
    · exact Nat.le_trans (bxsR_len n _) (bxS_len s)
theorem rwE_len (s : St) : (rwE s).1.length ≤ s.1.length := by
  unfold rwE rwM rwS
  exact Nat.le_trans (bxsR_len _ _) (Nat.le_trans (mny_len _ _) (Nat.le_trans (bs_len _) (Nat.le_trans (bs_len _) (ns_len _))))
def rwsR : Nat → St → List S48 × St
  | 0, s => ([], s)
  | n + 1, s => if s.2 = true then ([], s) else (rwV s :: (rwsR n (rwE s)).1, (rwsR n (rwE s)).2)
def pgS (s : St) : St := bs (ns (ns s))
def pgM (s : St) : Int × St := mnyR 18 (pgS s).1 (pgS s).2
def pgV (s : St) : S45 := ⟨nv s, nv (ns s), bv (ns (ns s)), (rwsR (pgM s).1.toNat (pgM s).2).1⟩
def pgE (s : St) : St := (rwsR (pgM s).1.toNat (pgM s).2).2
theorem rwsR_len : ∀ (n : Nat) (s : St), (rwsR n s).2.1.length ≤ s.1.length
  | 0, s => Nat.le_refl _
  | n + 1, s => by
    unfold rwsR
    split
    · exact Nat.le_refl _
    · exact Nat.le_trans (rwsR_len n _) (rwE_len s)
theorem pgE_len (s : St) : (pgE s).1.length ≤ s.1.length := by
  unfold pgE pgM pgS
  exact Nat.le_trans (rwsR_len _ _) (Nat.le_trans (mny_len _ _) (Nat.le_trans (bs_len _) (Nat.le_trans (ns_len _) (ns_len _))))
theorem infoA48 : (Try.prog.info? 48).map (fun i => (i.zero, i.size, i.bytes)) = some (some (.agg #[(.int .i64 0), (.bool false), (.bool false), (.slice none 0 0)]), 4, 40) := by kernel_rfl
set_option maxHeartbeats 1000000 in
set_option maxRecDepth 100000 in
theorem page_s (s : St) {w0 w W : World} {g : Nat} {L : List (Nat × Nat × Array Value)} (h : Fr w0 w W g s L) (hlen : s.1.length ≤ 1099511627776) :
    Calls Try.prog 32 #[.pointer (some ⟨g, 0, none⟩)] W fun e W' => ∃ v, e = .returned (.agg #[.int .i64 (pgV s).f0, .int .i64 (pgV s).f1, .bool (pgV s).f2, v]) ∧
      Kd.S k48 48 W' W.heap.size (fun k => W.heap.size ≤ k) v (pgV s).f3 ∧ Fr w0 w W' g (pgE s) L ∧ KeepBut W W' g none := by
  have HF := Aside0.mk h
  have H0 := Aside0.mk (Fr.start h.rd h.bel)
  have hgW := Aside0.mk h.rd.lt
  clear h
  go_enter Try.func32, Try.ntmps32
  go_wp2_with fail
  refine (num_s s (Fr.alloc H0.out _ _)).mono ?_
  rintro e W1 ⟨rfl, h⟩
  have H1 := Aside0.mk h
  clear h
  go_wp2_with fail
  refine (num_s _ H1.out).mono ?_
  rintro e W2 ⟨rfl, h⟩
  have H2 := Aside0.mk h
  clear h H1
  go_wp2_with fail
  refine (truth_s _ H2.out).mono ?_
  rintro e W3 ⟨rfl, h⟩
  have H3 := Aside0.mk h
  clear h H2
  go_wp2_with fail
  refine (many_s 18 (by omega) _ (Fr.alloc H3.out _ _)).mono ?_
  rintro e W4 ⟨rfl, h⟩
  have hlt := Aside0.mk (H3.out.lt (List.mem_singleton.2 rfl))
  have hm := mny_range 18 (by omega) (bs (ns (ns s)))
  have hm2 := mny_len 18 (bs (ns (ns s)))
  have hm3 := bs_len (ns (ns s))
  have hm4 := ns_len (ns s)
  have hm5 := ns_len s
  obtain ⟨n0, hn0⟩ := Int.eq_ofNat_of_zero_le hm.1
  have hn1 : n0 ≤ 61083979320 := by omega
  have HN := Aside0.mk hn0
  have hn0' : (mnyR 18 (bs (ns (ns s))).1 (bs (ns (ns s))).2).1 = (n0 : Int) := hn0
  rw [hn0']
  have H4 := Aside0.mk h
  have HLL := Aside0.mk (show (mnyR 18 (bs (ns (ns s))).1 (bs (ns (ns s))).2).2.1.length ≤ 1099511627776 by omega)
  clear h H3 hm hm2 hm3 hm4 hm5 hn0 hn0'
  go_wp2_with fail
  go_loopg [4] n0 (fun kq v4 wr => ∃ (xs : List S48) (s' : St) (vB : Value), s'.1.length ≤ 1099511627776 ∧ kq ≤ n0 ∧ xs.length + kq = n0 ∧ v4 = .int .i64 (kq : Int) ∧
    Aside0 (Fr w0 W wr g s' [(W3.heap.size, 45, #[.int .i64 (nv s), .int .i64 (nv (ns s)), .bool (bv (ns (ns s))), vB]), (W.heap.size, 45, #[.int .i64 0, .int .i64 0, .bool false, .slice none 0 0])]) ∧
    Aside0 (Kd.S k48 48 wr W.heap.size (fun k => W.heap.size ≤ k) vB xs) ∧ Aside0 (xs ++ (rwsR kq s').1 = (pgV s).f3 ∧ (rwsR kq s').2 = pgE s))
  case atStart => exact ⟨[], _, .slice none 0 0, HLL.out, Nat.le_refl _, by simp, rfl, H4, ⟨Kd.S_nil _ _ _ _ _⟩, ⟨by simp only [pgV, pgM, pgS, HN.out, List.nil_append, Int.toNat_natCast], by simp only [pgE, pgM, pgS, HN.out, Int.toNat_natCast]⟩⟩
  case round =>
    clear H4
    obtain ⟨xs, s', vB, hsl, hk, hx, rfl, HFr, HR, HE⟩ := hrel
    have hb3 := HFr.out.blk (List.mem_cons_self)
    have hc := blk_cell hb3
    have hf := blk_frozen hb3
    obtain ⟨A, c, hb, hg0, hT⟩ := HFr.out.rd
    have hcg := blk_cell hb
    clear hb3 hb hT
    cases gk with
    | zero =>
      obtain ⟨Av, cv, rfl⟩ := Kd.S_slice HR.out
      have EQ := Aside0.mk (show xs = (pgV s).f3 ∧ s' = pgE s from by have h := HE.out; simpa [rwsR] using h)
      clear HE
      have hb0 := HFr.out.blk (List.mem_cons_of_mem _ (List.mem_singleton.2 rfl))
      have hc0 := blk_cell hb0
      have hf0 := blk_frozen hb0
      have H12 := Aside0.mk (Fr.set _ _ _ (Fr.set _ _ _ (Fr.set _ _ _ (Fr.set _ _ _ (HFr.out.sub (L' := [(W.heap.size, 45, #[Value.int IntKind.i64 0, Value.int IntKind.i64 0, Value.bool false, Value.slice none 0 0])]) (fun x hx => List.mem_cons_of_mem _ hx)) (fun x hx => absurd hx (by simp)) 0 (.int .i64 (nv s))) (fun x hx => absurd hx (by simp)) 1 (.int .i64 (nv (ns s)))) (fun x hx => absurd hx (by simp)) 2 (.bool (bv (ns (ns s))))) (fun x hx => absurd hx (by simp)) 3 (.slice Av xs.length cv))
      have R12 := Aside0.mk (Kd.S_far (p := ⟨W.heap.size, 3, none⟩) (Kd.S_far (p := ⟨W.heap.size, 2, none⟩) (Kd.S_far (p := ⟨W.heap.size, 1, none⟩) (Kd.S_far (p := ⟨W.heap.size, 0, none⟩) (Kd.S_types HR.out (HFr.out.blk (List.mem_cons_of_mem _ (List.mem_singleton.2 rfl))) (by decide)) (fun _ hk => hk.2) (.int .i64 (nv s))) (fun _ hk => hk.2) (.int .i64 (nv (ns s)))) (fun _ hk => hk.2) (.bool (bv (ns (ns s))))) (fun _ hk => hk.2) (.slice Av xs.length cv))
      clear hb0
      go_wp2
      obtain ⟨W12, hW⟩ : ∃ X, ((((wr.setCell ⟨W.heap.size, 0, none⟩ (.int .i64 (nv s))).setCell ⟨W.heap.size, 1, none⟩ (.int .i64 (nv (ns s)))).setCell ⟨W.heap.size, 2, none⟩ (.bool (bv (ns (ns s))))).setCell ⟨W.heap.size, 3, none⟩ (.slice Av xs.length cv)) = X := ⟨_, rfl⟩
      have H13 : Fr w0 W W12 g s' [(W.heap.size, 45, #[.int .i64 (nv s), .int .i64 (nv (ns s)), .bool (bv (ns (ns s))), .slice Av xs.length cv])] := by
        rw [← hW]; have h := H12.out; simp only [List.setIfInBounds_toArray, List.set_cons_zero, List.set_cons_succ] at h; exact h
      have R13 : Kd.S k48 48 W12 W.heap.size (fun k => W.heap.size ≤ k) (.slice Av xs.length cv) xs := by
        rw [← hW]; exact Kd.S_mono R12.out (fun _ hk => hk.1)
      rw [hW]
      clear hc hf hc0 hf0 H12 hW hcg
      have hc := blk_cell (H13.blk (List.mem_cons_self))
      have HFF := Aside0.mk (HF.out.call H13.1 H13.2.1 H13.2.2.1)
      have RR := Aside0.mk R13
      have HKK := Aside0.mk H13.2.2.1
      clear H13 HF H0 HFr HR R13 R12
      refine bodyPost_ret (v := .agg #[.int .i64 (nv s), .int .i64 (nv (ns s)), .bool (bv (ns (ns s))), .slice Av xs.length cv]) (by simp [results, Try.results32, go_sem, hc]) rfl ⟨_, rfl, ?_, ?_, HKK.out⟩
      · rw [← EQ.out.1]; exact RR.out
      · rw [← EQ.out.2]; exact HFF.out
    | succ k =>
      obtain ⟨Av, cv, rfl⟩ := Kd.S_slice HR.out
      cases hs2 : s'.2 with
      | true =>
        rw [hs2] at hcg
        have EQ := Aside0.mk (show xs = (pgV s).f3 ∧ s' = pgE s from by have h := HE.out; simpa [rwsR, hs2] using h)
        clear HE hs2
        have hb0 := HFr.out.blk (List.mem_cons_of_mem _ (List.mem_singleton.2 rfl))
        have hc0 := blk_cell hb0
        have hf0 := blk_frozen hb0
        have H12 := Aside0.mk (Fr.set _ _ _ (Fr.set _ _ _ (Fr.set _ _ _ (Fr.set _ _ _ (HFr.out.sub (L' := [(W.heap.size, 45, #[Value.int IntKind.i64 0, Value.int IntKind.i64 0, Value.bool false, Value.slice none 0 0])]) (fun x hx => List.mem_cons_of_mem _ hx)) (fun x hx => absurd hx (by simp)) 0 (.int .i64 (nv s))) (fun x hx => absurd hx (by simp)) 1 (.int .i64 (nv (ns s)))) (fun x hx => absurd hx (by simp)) 2 (.bool (bv (ns (ns s))))) (fun x hx => absurd hx (by simp)) 3 (.slice Av xs.length cv))
        have R12 := Aside0.mk (Kd.S_far (p := ⟨W.heap.size, 3, none⟩) (Kd.S_far (p := ⟨W.heap.size, 2, none⟩) (Kd.S_far (p := ⟨W.heap.size, 1, none⟩) (Kd.S_far (p := ⟨W.heap.size, 0, none⟩) (Kd.S_types HR.out (HFr.out.blk (List.mem_cons_of_mem _ (List.mem_singleton.2 rfl))) (by decide)) (fun _ hk => hk.2) (.int .i64 (nv s))) (fun _ hk => hk.2) (.int .i64 (nv (ns s)))) (fun _ hk => hk.2) (.bool (bv (ns (ns s))))) (fun _ hk => hk.2) (.slice Av xs.length cv))
        clear hb0
        go_wp2
        obtain ⟨W12, hW⟩ : ∃ X, ((((wr.setCell ⟨W.heap.size, 0, none⟩ (.int .i64 (nv s))).setCell ⟨W.heap.size, 1, none⟩ (.int .i64 (nv (ns s)))).setCell ⟨W.heap.size, 2, none⟩ (.bool (bv (ns (ns s))))).setCell ⟨W.heap.size, 3, none⟩ (.slice Av xs.length cv)) = X := ⟨_, rfl⟩
        have H13 : Fr w0 W W12 g s' [(W.heap.size, 45, #[.int .i64 (nv s), .int .i64 (nv (ns s)), .bool (bv (ns (ns s))), .slice Av xs.length cv])] := by
          rw [← hW]; have h := H12.out; simp only [List.setIfInBounds_toArray, List.set_cons_zero, List.set_cons_succ] at h; exact h
        have R13 : Kd.S k48 48 W12 W.heap.size (fun k => W.heap.size ≤ k) (.slice Av xs.length cv) xs := by
          rw [← hW]; exact Kd.S_mono R12.out (fun _ hk => hk.1)
        rw [hW]
        clear hc hf hc0 hf0 H12 hW hcg
        have hc := blk_cell (H13.blk (List.mem_cons_self))
        have HFF := Aside0.mk (HF.out.call H13.1 H13.2.1 H13.2.2.1)
        have RR := Aside0.mk R13
        have HKK := Aside0.mk H13.2.2.1
        clear H13 HF H0 HFr HR R13 R12
        refine bodyPost_ret (v := .agg #[.int .i64 (nv s), .int .i64 (nv (ns s)), .bool (bv (ns (ns s))), .slice Av xs.length cv]) (by simp [results, Try.results32, go_sem, hc]) rfl ⟨_, rfl, ?_, ?_, HKK.out⟩
        · rw [← EQ.out.1]; exact RR.out
        · rw [← EQ.out.2]; exact HFF.out
      | false =>
        rw [hs2] at hcg
        have EQ := Aside0.mk (show xs ++ (rwV s' :: (rwsR k (rwE s')).1) = (pgV s).f3 ∧ (rwsR k (rwE s')).2 = pgE s from by have h := HE.out; simpa [rwsR, hs2] using h)
        clear HE hs2
        have HFd := Aside0.mk HFr.out.drew
        have HRd := Aside0.mk (Kd.S_drew HR.out)
        have hcd : ∀ (i : Nat), wr.drew.cell? ⟨W3.heap.size, i, none⟩ = #[.int .i64 (nv s), .int .i64 (nv (ns s)), .bool (bv (ns (ns s))), .slice Av xs.length cv][i]? := hc
        go_wp2_with fail
        clear hcg hf hc
        have hWwr := Aside0.mk HFr.out.keep.1
        have hvb := Aside0.mk (fun k (hk : (Value.slice Av xs.length cv).ownBlock = some k) => ((Kd.R_bound (Kd.S_R HR.out)).1 k hk).2.2.1)
        have HRe := Aside0.mk (Kd.S_mono HRd.out (ok' := fun k => W.heap.size ≤ k ∧ k ≠ g) (fun k hk => ⟨hk, by have := hgW.out; omega⟩))
        go_region_law (first
          | (refine goes_ (N := some 28) Try.func42 (by kernel_rfl) rfl #[.pointer (some ⟨g, 0, none⟩)] (by rfl) rfl rfl (by simp only [List.map_toArray, List.map_cons, List.map_nil]; rfl) ?_; refine (row_s s' HFd.out hsl).mono ?_; rintro e w5 ⟨v5, rfl, r5, h5, k5⟩; refine ⟨_, rfl, ?_⟩; obtain ⟨A5, c5, hv5⟩ := Kd.R_slice r5; subst hv5; have H5 := Aside0.mk h5; have R5 := Aside0.mk (Kd.S_oldK HRe.out k5); have RR5 := Aside0.mk r5; have hsz5 := Aside0.mk k5.1; have hc5 := blk_cell (h5.blk (List.mem_cons_self)); have hc5a := fun (o : Obj) (i : Nat) => (World.cell?_alloc_lt w5 o ⟨W3.heap.size, i, none⟩ (H5.out.lt (List.mem_cons_self))).trans (hc5 i); clear h5 k5 r5)
          | (refine Kd.S_append_step k48 (w0 := w5) W.heap.size rfl (.tmp 26) (.tmp 29) 43 48 (.agg #[(.int .i64 0), (.bool false), (.bool false), (.slice none 0 0)]) 40 rfl Try.underlying43 infoA48 rfl (by decide) (by decide) (.slice Av xs.length cv) xs (rwV s') [.int .i64 (rwV s').f0, .bool (rwV s').f1, .bool (rwV s').f2, .slice A5 (rwV s').f3.length c5] (fun k => W.heap.size ≤ k) (fun k => wr.heap.size ≤ k) rfl rfl (k48_mkM _ _ _ _ (Kd.R_lower RR5.out hWwr.out)) (fun k hk => ⟨Nat.le_trans hWwr.out hk, fun e => by have := hvb.out k e.symm; omega⟩) (fun k hk => Nat.le_trans H5.out.keep.1 hk) (Kd.S_mono R5.out (fun k hk => ⟨hk.1, fun h2 => Nat.lt_irrefl _ (Nat.lt_of_lt_of_le hk.2 h2)⟩)) (Below.refl _ _) H5.out.keep.1 (by omega) ?_; intro v1 w6 HR6 HB6 HG6 HD6; obtain ⟨A6, c6, hv6⟩ := Kd.S_slice HR6; subst hv6; have H6 := Aside0.mk (Fr.grown H5.out (Kd.S_R R5.out) (Nat.le_refl _) HG6 (H5.out.bel.trans (HB6.mono H0.out.bel.size)) (by decide) (by intro x hx; simp only [List.mem_cons, List.not_mem_nil, or_false] at hx; rcases hx with rfl | rfl <;> exact (by decide : (48 : Nat) ≠ 45))); have R6 := Aside0.mk HR6; have hc6 := blk_cell (H6.out.blk (List.mem_cons_self)); have hf6 := blk_frozen (H6.out.blk (List.mem_cons_self)); clear HR6 HB6 HG6 HD6))
        all_goals
          have HL2 := Aside0.mk (Nat.le_trans (rwE_len s') hsl)
          have H7 := Aside0.mk (Fr.set _ _ _ H6.out (by intro x hx; rw [List.mem_singleton.1 hx]; have := hlt.out; simp only; omega) 3 (.slice A6 (xs ++ [rwV s']).length c6))
          have R7 := Aside0.mk (Kd.S_set R6.out (H6.out.blk (List.mem_cons_self)) (by decide) 3 (.slice A6 (xs ++ [rwV s']).length c6))
          simp only [List.length_append, List.length_cons, List.length_nil, Nat.zero_add] at H7 R7
          go_wp2_with fail
          go_roundg k
          case measure => omega
          case rel => exact ⟨xs ++ [rwV s'], rwE s', _, HL2.out, by omega, by simp; omega, by go_num, H7, ⟨by simpa using R7.out⟩, ⟨by rw [List.append_assoc]; exact EQ.out.1, EQ.out.2⟩⟩
def sliceA {α : Type} (e : Nat) (d : Kd α) : Kd (List α) where
  sz := 1
  E := e :: d.E
  K := fun w xs cs => ∃ A c, cs = [.slice A xs.length c] ∧ xs.length ≤ c ∧ d.C w A xs.length xs
  M := fun w base ok xs cs => ∃ v, cs = [v] ∧ Kd.S d e w base ok v xs
  K_len := by
    rintro w x cs ⟨A, c, rfl, _⟩
    rfl
  K_one := by
    rintro w x cs ⟨A, c, rfl, _⟩ u hu
    rw [List.mem_singleton.1 hu]
    rfl
  K_below := by
    rintro w w1 x cs hb ⟨A, c, rfl, hl, hr⟩
    exact ⟨A, c, rfl, hl, Kd.C_below hr hb⟩
  K_of_M := by
    rintro w base ok x cs ⟨v, rfl, h⟩
    obtain ⟨A, c, rfl, hl, hr⟩ := Kd.S_reads h
    exact ⟨A, c, rfl, hl, hr⟩
  M_mono := by
    rintro w base ok ok' x cs hok ⟨v, rfl, h⟩
    exact ⟨v, rfl, Kd.S_mono h hok⟩
  M_bound := by
    rintro w base ok x cs ⟨v, rfl, h⟩
    exact ⟨v, rfl, Kd.S_bound h⟩
  M_move := by
    rintro w w1 base ok x cs hm ⟨v, rfl, h⟩
    exact ⟨v, rfl, Kd.S_move h hm⟩
  M_lower := by
    rintro w base base' ok x cs hb ⟨v, rfl, h⟩
    exact ⟨v, rfl, Kd.S_lower h hb⟩
def k45A : Kd S45 := Kd.iso (Kd.pair (Kd.int .i64) (Kd.pair (Kd.int .i64) (Kd.pair Kd.bool (sliceA 48 k48)))) (fun x : S45 => (x.f0, x.f1, x.f2, x.f3))
theorem k45A_mkM (w : World) (base : Nat) (ok : Nat → Prop) (x : S45) {v3 : Value} (g3 : Kd.S k48 48 w base ok v3 x.f3) : k45A.M w base ok x [.int .i64 x.f0, .int .i64 x.f1, .bool x.f2, v3] :=
  ⟨[.int .i64 x.f0], [.int .i64 x.f1, .bool x.f2, v3], rfl, rfl, ⟨[.int .i64 x.f1], [.bool x.f2, v3], rfl, rfl, ⟨[.bool x.f2], [v3], rfl, rfl, ⟨v3, rfl, g3⟩⟩⟩⟩
theorem k45A_openM {w : World} {base : Nat} {ok : Nat → Prop} {x : S45} {cs : List Value} (h : k45A.M w base ok x cs) : ∃ v3, cs = [.int .i64 x.f0, .int .i64 x.f1, .bool x.f2, v3] ∧ Kd.S k48 48 w base ok v3 x.f3 := by
  obtain ⟨_, _, rfl, rfl, ⟨_, _, rfl, rfl, ⟨_, _, rfl, rfl, ⟨v3, rfl, g3⟩⟩⟩⟩ := h
  exact ⟨v3, rfl, g3⟩
theorem R_of_A {e : Nat} {w : World} {base : Nat} {ok : Nat → Prop} {v : Value} {xs : List S45} (h : Kd.S k45A e w base ok v xs) : k45.R e w base ok v xs := by
  obtain ⟨h0, inner, ho, hr⟩ := Kd.S_R h
  exact ⟨h0, inner, ho, hr.imp_ (fun x cs hx => by
    obtain ⟨v3, rfl, g3⟩ := k45A_openM hx
    exact k45_mkM _ _ _ _ (Kd.S_R g3))⟩
def pgsR : Nat → St → List S45 × St
  | 0, s => ([], s)
  | n + 1, s => if s.2 = true then ([], s) else (pgV s :: (pgsR n (pgE s)).1, (pgsR n (pgE s)).2)
def markOk (b : List Int) : Bool := (strOfNums (b.take 8)).toList == [112, 108, 97, 116, 101, 110, 65, 49]
def sumOk (b : List Int) : Bool := (numR (b.drop (b.length - 8)) false).1 == wrap64 (fnvs (b.take (b.length - 8)))
def g0 (b : List Int) : St := ((b.take (b.length - 8)).drop 8, false)
def g4 (b : List Int) : St := ns (ns (ns (ns (g0 b))))
def gM (b : List Int) : Int × St := mnyR 25 (g4 b).1 (g4 b).2
def gP (b : List Int) : List S45 := (pgsR (gM b).1.toNat (gM b).2).1
def gE (b : List Int) : St := (pgsR (gM b).1.toNat (gM b).2).2
def gOk (b : List Int) : Bool := !((gE b).2 || decide (0 < (gE b).1.length) || decide (nv (ns (ns (g0 b))) < 0) || decide (nv (ns (ns (ns (g0 b)))) < 0) || (nv (g0 b) != 0) && decide (0 < (gP b).length))
def getF (b : List Int) : Int × Int × Int × Int × List S45 × Int :=
  if 56 ≤ b.length ∧ markOk b = true ∧ sumOk b = true ∧ gOk b = true then (nv (g0 b), nv (ns (g0 b)), nv (ns (ns (g0 b))), nv (ns (ns (ns (g0 b)))), gP b, 0)
  else (0, 0, 0, 0, [], 200)
end Go.Proofs.Ytihiapjfdgoomaa.A
