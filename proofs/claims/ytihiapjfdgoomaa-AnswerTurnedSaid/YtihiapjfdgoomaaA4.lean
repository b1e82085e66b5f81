/- The contract of answer.Put. -/
import Derived.Test.YtihiapjfdgoomaaA3
import Derived.Test.YtihiapjfdgoomaaPx0
import Derived.Test.YtihiapjfdgoomaaPx5
namespace Go.Proofs.Ytihiapjfdgoomaa.A
open Go.RowKit Go.Proofs.YtihiapjfdgoomaaW.PrintWords Go.Proofs.YtihiapjfdgoomaaW.PrintLast Go.Proofs.YtihiapjfdgoomaaW.PrintMore
open Go.Proofs.Ytihiapjfdgoomaa.P
set_option linter.unusedVariables false
set_option linter.unusedSimpArgs false

def trB (t : Bool) : List Int := [if t then 1 else 0]
def bxB (b : S50) : List Int := boxBytes b.f0 b.f1 b.f2 b.f3 b.f4 b.f5 b.f6 b.f7 b.f8 b.f9
def bxsB (l : List S50) : List Int := l.flatMap bxB
def rwB (r : S48) : List Int := be8 r.f0 ++ (trB r.f1 ++ (trB r.f2 ++ (be8 r.f3.length ++ bxsB r.f3)))
def rwsB (l : List S48) : List Int := l.flatMap rwB
def pgB (p : S45) : List Int := be8 p.f0 ++ (be8 p.f1 ++ (trB p.f2 ++ (be8 p.f3.length ++ rwsB p.f3)))
def pgsB (l : List S45) : List Int := l.flatMap pgB
def markB : List Int := [112, 108, 97, 116, 101, 110, 65, 49]
def headB (a0 a1 a2 a3 : Int) (l : List S45) : List Int := markB ++ (be8 a0 ++ (be8 a1 ++ (be8 a2 ++ (be8 a3 ++ be8 l.length))))
def bodyB (a0 a1 a2 a3 : Int) (l : List S45) : List Int := headB a0 a1 a2 a3 l ++ pgsB l
/-- One step of the check sum, and the sum. -/
def fnv (s c : Int) : Int := IntKind.u64.wrap ((Go.bits .xor .u64 s (IntKind.u64.wrap c)) * 1099511628211)
def fnvs (l : List Int) : Int := l.foldl fnv 14695981039346656037
def putB (a0 a1 a2 a3 : Int) (l : List S45) : List Int := bodyB a0 a1 a2 a3 l ++ be8 (wrap64 (fnvs (bodyB a0 a1 a2 a3 l)))

theorem take_flat {α : Type} (f : α → List Int) (z : α) (l : List α) (i : Nat) (h : i < l.length) : (l.take (i + 1)).flatMap f = (l.take i).flatMap f ++ f (l.getD i z) := by
  rw [List.take_succ_eq_append_getElem h, List.flatMap_append]
  simp [List.getD_eq_getElem?_getD, List.getElem?_eq_getElem h]
theorem take_flat_le {α : Type} (f : α → List Int) (l : List α) (i : Nat) : ((l.take i).flatMap f).length ≤ (l.flatMap f).length := by
  conv => rhs; rw [← List.take_append_drop i l]
  simp only [List.flatMap_append, List.length_append]; omega
theorem be8_length (n : Int) : (be8 n).length = 8 := rfl
theorem trB_length (t : Bool) : (trB t).length = 1 := rfl
theorem headB_length (a0 a1 a2 a3 : Int) (l : List S45) : (headB a0 a1 a2 a3 l).length = 48 := rfl
theorem markB_eq : bytesOf ⟨#[112, 108, 97, 116, 101, 110, 65, 49]⟩ = markB := by decide
theorem flat_ge {α : Type} (f : α → List Int) (h : ∀ x, 1 ≤ (f x).length) (l : List α) : l.length ≤ (l.flatMap f).length := by
  induction l with
  | nil => simp
  | cons x l ih => have := h x; simp only [List.flatMap_cons, List.length_append, List.length_cons]; omega
theorem pgB_length (p : S45) : (pgB p).length = 25 + (rwsB p.f3).length := by simp only [pgB, List.length_append, be8_length, trB_length]; omega
theorem rwB_length (r : S48) : (rwB r).length = 18 + (bxsB r.f3).length := by simp only [rwB, List.length_append, be8_length, trB_length]; omega
theorem bxB_length (b : S50) : (bxB b).length = 80 + b.f2.size := by simp only [bxB, boxBytes, List.length_append, be8_length, bytesOf_length]; omega

theorem fnv_eq (s c : Int) : IntKind.u64.wrap ((Go.bits .xor .u64 s (IntKind.u64.wrap c)) * 1099511628211) = fnv s c := rfl
/-- The loop of the sum. -/
theorem sum_loop (l : List Int) (hl : l.length ≤ 9223372036854775807) : ∀ (d i : Nat) (s : Int), i + d = l.length → answer_sum.l0 (d + 1) s l (l.length : Int) (i : Int) = some (wrap64 ((l.drop i).foldl fnv s)) := by
  intro d
  induction d with
  | zero =>
    intro i s hi
    simp only [answer_sum.l0]
    rw [if_neg (by omega), List.drop_of_length_le (by omega)]
    rfl
  | succ d ih =>
    intro i s hi
    rw [answer_sum.l0]
    rw [if_pos (by omega), if_pos (by omega), if_pos (by omega)]
    have hw : wrap64 ((i : Int) + 1) = ((i + 1 : Nat) : Int) := by unfold wrap64; omega
    have hrd : rd l (i : Int) = l[i] := by simp [rd, List.getD_eq_getElem?_getD, List.getElem?_eq_getElem (by omega : i < l.length)]
    rw [hw, ih (i + 1) _ (by omega), fnv_eq, hrd, List.drop_eq_getElem_cons (by omega : i < l.length), List.foldl_cons]
theorem sum_loop0 (l : List Int) (hl : l.length ≤ 9223372036854775807) (s : Int) : answer_sum.l0 (l.length + 1) s l (l.length : Int) 0 = some (wrap64 (l.foldl fnv s)) := by
  have h := sum_loop l hl l.length 0 s (by omega)
  rw [List.drop_zero] at h
  exact h
theorem sum_tells (l : List Int) (hl : l.length ≤ 9223372036854775807) : answer_sum.f (l.length + 1) l = some (wrap64 (fnvs l)) := by
  unfold answer_sum.f fnvs
  exact sum_loop0 l hl _

theorem put_no (a0 a1 a2 a3 : Int) (A : Option Addr) (c : Nat) (l : List S45) (w : World) (hC : Kd.C k45 w A l.length l) (hc : l.length ≤ c)
    (h : a2 < 0 ∨ a3 < 0 ∨ a0 ≠ 0 ∧ 0 < l.length) :
    Calls Try.prog 10 #[.agg #[.int .i64 a0, .int .i64 a1, .int .i64 a2, .int .i64 a3, .slice A l.length c]] w fun e w' =>
      e = .returned (.tuple #[.slice none 0 0, .int .i64 200]) ∧ Below w.heap.size w w' := by
  clear hC
  by_cases h2 : a2 < 0
  · clear h
    have h2b : decide (a2 < 0) = true := by simpa using h2
    go_enter Try.func10, Try.ntmps10
    go_wp2
    go_ret2
    exact ⟨rfl, below_alloc (Below.refl _ _) _⟩
  have h2b : decide (a2 < 0) = false := by simpa using h2
  by_cases h3 : a3 < 0
  · clear h
    have h3b : decide (a3 < 0) = true := by simpa using h3
    go_enter Try.func10, Try.ntmps10
    go_wp2
    go_ret2
    exact ⟨rfl, below_alloc (Below.refl _ _) _⟩
  have h3b : decide (a3 < 0) = false := by simpa using h3
  have h4 : a0 ≠ 0 ∧ 0 < l.length := by omega
  have h0b : (a0 == 0) = false := by simpa using h4.1
  have h0c : (a0 != 0) = true := by simpa using h4.1
  have h5 : decide ((0 : Int) < (l.length : Int)) = true := by simpa using h4.2
  have h6 : decide (0 < l.length) = true := by simpa using h4.2
  clear h h4
  go_enter Try.func10, Try.ntmps10
  go_wp2
  go_ret2
  exact ⟨rfl, below_alloc (Below.refl _ _) _⟩

set_option maxHeartbeats 4000000 in
set_option maxRecDepth 100000 in
theorem put_ok (a0 a1 a2 a3 : Int) (A : Option Addr) (c : Nat) (l : List S45) (w : World) (hC : Kd.C k45 w A l.length l) (hc : l.length ≤ c)
    (h2 : 0 ≤ a2) (h3 : 0 ≤ a3) (h0 : a0 = 0 ∨ l.length = 0) (hl : (bodyB a0 a1 a2 a3 l).length + 8 ≤ 140737488355328) :
    Calls Try.prog 10 #[.agg #[.int .i64 a0, .int .i64 a1, .int .i64 a2, .int .i64 a3, .slice A l.length c]] w fun e w' =>
      ∃ v : Value, e = .returned (.tuple #[v, .int .i64 0]) ∧ Kd.R (Kd.int .u8) 5 w' w.heap.size (fun _ => True) v (putB a0 a1 a2 a3 l) ∧ Below w.heap.size w w' := by
  have HC := Aside0.mk hC
  have HL := Aside0.mk hl
  have h2b : decide (a2 < 0) = false := by simpa using h2
  have h3b : decide (a3 < 0) = false := by simpa using h3
  have h0b : ((a0 != 0) && decide ((0 : Int) < (l.length : Int))) = false := by
    rcases h0 with rfl | h
    · simp
    · simp [h]
  have H0b := Aside0.mk h0b
  clear hC hl h0b
  go_enter Try.func10, Try.ntmps10
  go_upto_region 1 with (fail)
  go_cut [32] (fun v32 wc => v32 = .bool false ∧ wc = w.alloc (.cells #[.int .i64 a0, .int .i64 a1, .int .i64 a2, .int .i64 a3, .slice A l.length c] 27))
  case first =>
    by_cases h00 : a0 = 0
    · have z1 : (a0 == 0) = true := by simpa using h00
      have z2 : (a0 != 0) = false := by simpa using h00
      clear h00
      go_wp2
      go_meet
      case rel => exact ⟨rfl, rfl⟩
    · have z1 : (a0 == 0) = false := by simpa using h00
      have z2 : (a0 != 0) = true := by simpa using h00
      have hz : decide ((0 : Int) < (l.length : Int)) = false := by have := H0b.out; simpa [h00] using this
      have hz' : decide (0 < l.length) = false := by simpa using hz
      go_wp2
      go_meet
      case rel => exact ⟨rfl, rfl⟩
  case rest =>
    obtain ⟨rfl, rfl⟩ := hcut
    clear h0
    have HLn := Aside0.mk (show 8 + 40 + (pgsB l).length + 8 ≤ 140737488355328 by have := HL.out; simp only [bodyB, headB, List.length_append, be8_length, markB, List.length_cons, List.length_nil] at this; omega)
    have hll : l.length ≤ 140737488355328 := by have h1 := flat_ge pgB (fun r => by rw [pgB_length]; omega) l; have h2 := HLn.out; simp only [pgsB] at h2; omega
    have hg27 : w.heap.size ≠ w.heap.size + 1 := by omega
    have H0 := Aside0.mk (And.intro ((⟨.slice none 0 0, by simpa using heap_alloc_new (w.alloc (.cells #[.int .i64 a0, .int .i64 a1, .int .i64 a2, .int .i64 a3, .slice A l.length c] 27)) (.cells #[.slice none 0 0] 53), by omega, Kd.R_nil _ _ _ _ _⟩ : IsB w ((w.alloc (.cells #[.int .i64 a0, .int .i64 a1, .int .i64 a2, .int .i64 a3, .slice A l.length c] 27)).alloc (.cells #[.slice none 0 0] 53)) (w.heap.size + 1) [])) (And.intro (below_alloc (below_alloc (Below.refl w.heap.size w) (.cells #[.int .i64 a0, .int .i64 a1, .int .i64 a2, .int .i64 a3, .slice A l.length c] 27)) (.cells #[.slice none 0 0] 53)) (And.intro ((Below.heap_alloc (w.alloc (.cells #[.int .i64 a0, .int .i64 a1, .int .i64 a2, .int .i64 a3, .slice A l.length c] 27)) (.cells #[.slice none 0 0] 53) w.heap.size (by simp)).trans (heap_alloc_new w (.cells #[.int .i64 a0, .int .i64 a1, .int .i64 a2, .int .i64 a3, .slice A l.length c] 27))) trivial)))
    have hc0 := blk_cell (H0.out.2.2.1)
    go_wp2_with fail
    refine (lay_T (w.heap.size + 1) _ ⟨#[112, 108, 97, 116, 101, 110, 65, 49]⟩ w _ H0.out.1 H0.out.2.1 (by decide)).mono ?_
    rintro e W1 ⟨rfl, hI, hB, hK⟩
    have H1 := Aside0.mk (And.intro hI (And.intro hB (And.intro (hK.blk (H0.out.2.2.1) hg27 (by decide)) trivial)))
    clear hI hB hK hc0
    clear H0
    have i0 : ∀ w, (Instr.index 55 (.agg #[.int .i64 a0, .int .i64 a1, .int .i64 a2, .int .i64 a3, .int .i64 (l.length : Int)]) (.int .i64 0)).run Try.prog w = .ok (.int .i64 a0) w := fun _ => by kernel_rfl
    have i1 : ∀ w, (Instr.index 55 (.agg #[.int .i64 a0, .int .i64 a1, .int .i64 a2, .int .i64 a3, .int .i64 (l.length : Int)]) (.int .i64 1)).run Try.prog w = .ok (.int .i64 a1) w := fun _ => by kernel_rfl
    have i2 : ∀ w, (Instr.index 55 (.agg #[.int .i64 a0, .int .i64 a1, .int .i64 a2, .int .i64 a3, .int .i64 (l.length : Int)]) (.int .i64 2)).run Try.prog w = .ok (.int .i64 a2) w := fun _ => by kernel_rfl
    have i3 : ∀ w, (Instr.index 55 (.agg #[.int .i64 a0, .int .i64 a1, .int .i64 a2, .int .i64 a3, .int .i64 (l.length : Int)]) (.int .i64 3)).run Try.prog w = .ok (.int .i64 a3) w := fun _ => by kernel_rfl
    have i4 : ∀ w, (Instr.index 55 (.agg #[.int .i64 a0, .int .i64 a1, .int .i64 a2, .int .i64 a3, .int .i64 (l.length : Int)]) (.int .i64 4)).run Try.prog w = .ok (.int .i64 (l.length : Int)) w := fun _ => by kernel_rfl
    have hc0 := blk_cell H1.out.2.2.1
    go_wp2_with fail
    refine wp_loop_rounds 6 ?_
    rw [rounds_succ]
    have hc0 := blk_cell (H1.out.2.2.1)
    go_wp2_with fail
    refine (number_T (w.heap.size + 1) _ a0 w _ H1.out.1 H1.out.2.1 (by first | decide | (simp only [List.length_append, be8_length, trB_length, bytesOf_length, markB, List.length_cons, List.length_nil]; decide) | (simp only [List.length_append, be8_length, trB_length, bytesOf_length, markB, List.length_cons, List.length_nil]; omega))).mono ?_
    rintro e W2 ⟨rfl, hI, hB, hK⟩
    have H2 := Aside0.mk (And.intro hI (And.intro hB (And.intro (hK.blk (H1.out.2.2.1) hg27 (by decide)) trivial)))
    clear hI hB hK hc0
    clear H1
    have hc0 := blk_cell H2.out.2.2.1
    go_wp2_with fail
    clear hc0
    rw [rounds_succ]
    have hc0 := blk_cell (H2.out.2.2.1)
    go_wp2_with fail
    refine (number_T (w.heap.size + 1) _ a1 w _ H2.out.1 H2.out.2.1 (by first | decide | (simp only [List.length_append, be8_length, trB_length, bytesOf_length, markB, List.length_cons, List.length_nil]; decide) | (simp only [List.length_append, be8_length, trB_length, bytesOf_length, markB, List.length_cons, List.length_nil]; omega))).mono ?_
    rintro e W3 ⟨rfl, hI, hB, hK⟩
    have H3 := Aside0.mk (And.intro hI (And.intro hB (And.intro (hK.blk (H2.out.2.2.1) hg27 (by decide)) trivial)))
    clear hI hB hK hc0
    clear H2
    have hc0 := blk_cell H3.out.2.2.1
    go_wp2_with fail
    clear hc0
    rw [rounds_succ]
    have hc0 := blk_cell (H3.out.2.2.1)
    go_wp2_with fail
    refine (number_T (w.heap.size + 1) _ a2 w _ H3.out.1 H3.out.2.1 (by first | decide | (simp only [List.length_append, be8_length, trB_length, bytesOf_length, markB, List.length_cons, List.length_nil]; decide) | (simp only [List.length_append, be8_length, trB_length, bytesOf_length, markB, List.length_cons, List.length_nil]; omega))).mono ?_
    rintro e W4 ⟨rfl, hI, hB, hK⟩
    have H4 := Aside0.mk (And.intro hI (And.intro hB (And.intro (hK.blk (H3.out.2.2.1) hg27 (by decide)) trivial)))
    clear hI hB hK hc0
    clear H3
    have hc0 := blk_cell H4.out.2.2.1
    go_wp2_with fail
    clear hc0
    rw [rounds_succ]
    have hc0 := blk_cell (H4.out.2.2.1)
    go_wp2_with fail
    refine (number_T (w.heap.size + 1) _ a3 w _ H4.out.1 H4.out.2.1 (by first | decide | (simp only [List.length_append, be8_length, trB_length, bytesOf_length, markB, List.length_cons, List.length_nil]; decide) | (simp only [List.length_append, be8_length, trB_length, bytesOf_length, markB, List.length_cons, List.length_nil]; omega))).mono ?_
    rintro e W5 ⟨rfl, hI, hB, hK⟩
    have H5 := Aside0.mk (And.intro hI (And.intro hB (And.intro (hK.blk (H4.out.2.2.1) hg27 (by decide)) trivial)))
    clear hI hB hK hc0
    clear H4
    have hc0 := blk_cell H5.out.2.2.1
    go_wp2_with fail
    clear hc0
    rw [rounds_succ]
    have hc0 := blk_cell (H5.out.2.2.1)
    go_wp2_with fail
    refine (number_T (w.heap.size + 1) _ (l.length : Int) w _ H5.out.1 H5.out.2.1 (by first | decide | (simp only [List.length_append, be8_length, trB_length, bytesOf_length, markB, List.length_cons, List.length_nil]; decide) | (simp only [List.length_append, be8_length, trB_length, bytesOf_length, markB, List.length_cons, List.length_nil]; omega))).mono ?_
    rintro e W6 ⟨rfl, hI, hB, hK⟩
    have H6 := Aside0.mk (And.intro hI (And.intro hB (And.intro (hK.blk (H5.out.2.2.1) hg27 (by decide)) trivial)))
    clear hI hB hK hc0
    clear H5
    have hc0 := blk_cell H6.out.2.2.1
    go_wp2_with fail
    clear hc0
    rw [rounds_succ]
    have hc0 := blk_cell H6.out.2.2.1
    go_wp2_with fail
    have HI := Aside0.mk (show IsB w W6 (w.heap.size + 1) (headB a0 a1 a2 a3 l) from by have h := H6.out.1; rw [markB_eq] at h; simpa only [headB, List.nil_append, List.append_assoc] using h)
    have HB := Aside0.mk H6.out.2.1
    clear hc0 H6 i0 i1 i2 i3 i4
    go_loopg [61] l.length (fun kq v61 wr => ∃ i : Nat, i + kq = l.length ∧ v61 = .int .i64 (i : Int) ∧ Aside0 (IsB w wr (w.heap.size + 1) (headB a0 a1 a2 a3 l ++ pgsB (l.take i))) ∧ Aside0 (Below w.heap.size w wr))
    case atStart => exact ⟨0, by omega, rfl, by simpa [pgsB] using HI, HB⟩
    case round =>
      clear HI HB
      obtain ⟨i, hi, rfl, HI, HB⟩ := hrel
      by_cases hlt : i < l.length
      · have HLp := Aside0.mk (show 48 + (pgsB (l.take i)).length + (25 + (rwsB (rd_T45 l (i : Int)).f3).length) + 8 ≤ 140737488355328 from by
          have h1 := take_flat_le pgB l (i + 1)
          have h2 := take_flat pgB z45 l i hlt
          have h3 := pgB_length (l.getD i z45)
          have h4 := HLn.out
          rw [h2, List.length_append] at h1
          simp only [rd_T45, Int.toNat_natCast]
          simp only [pgsB] at h4 ⊢
          omega)
        have hlj : (rd_T45 l (i : Int)).f3.length ≤ 140737488355328 := by have h1 := flat_ge rwB (fun r => by rw [rwB_length]; omega) (rd_T45 l (i : Int)).f3; have h2 := HLp.out; simp only [rwsB] at h2; omega
        have HEp := Aside0.mk (show pgsB (l.take (i + 1)) = pgsB (l.take i) ++ pgB (rd_T45 l (i : Int)) from take_flat pgB z45 l i hlt)
        obtain ⟨ad, A3, c3, hA, p0, p1, p2, p3, l3, g3⟩ := at_T45 HC.out (i : Int) (by omega) (by omega)
        subst hA
        simp only [Int.toNat_natCast] at p0 p1 p2 p3
        have q0 := pw_cell_below HB.out p0
        have q1 := pw_cell_below HB.out p1
        have q2 := pw_cell_below HB.out p2
        have q3 := pw_cell_below HB.out p3
        have G3 := Aside0.mk g3
        have hg45 : wr.heap.size ≠ w.heap.size + 1 := by have := HI.out.lt; omega
        clear g3 p0 p1 p2 p3
        have HP0 := Aside0.mk (And.intro (HI.out.alloc (.cells #[.int .i64 (rd_T45 l (i : Int)).f0, .int .i64 (rd_T45 l (i : Int)).f1, .bool (rd_T45 l (i : Int)).f2, .slice A3 (rd_T45 l (i : Int)).f3.length c3] 45)) (And.intro (below_alloc HB.out (.cells #[.int .i64 (rd_T45 l (i : Int)).f0, .int .i64 (rd_T45 l (i : Int)).f1, .bool (rd_T45 l (i : Int)).f2, .slice A3 (rd_T45 l (i : Int)).f3.length c3] 45)) (And.intro (heap_alloc_new wr (.cells #[.int .i64 (rd_T45 l (i : Int)).f0, .int .i64 (rd_T45 l (i : Int)).f1, .bool (rd_T45 l (i : Int)).f2, .slice A3 (rd_T45 l (i : Int)).f3.length c3] 45)) trivial)))
        clear HI HB
        go_wp2_with fail
        clear q0 q1 q2 q3
        refine (number_T (w.heap.size + 1) _ (rd_T45 l (i : Int)).f0 w _ HP0.out.1 HP0.out.2.1 (by have := HLp.out; simp only [List.length_append, be8_length, trB_length, headB_length, List.length_cons, List.length_nil]; omega)).mono ?_
        rintro e W11 ⟨rfl, hI, hB, hK⟩
        have H11 := Aside0.mk (And.intro hI (And.intro hB (And.intro (hK.blk (HP0.out.2.2.1) hg45 (by decide)) trivial)))
        clear hI hB hK
        clear HP0
        have hc0 := blk_cell (H11.out.2.2.1)
        go_wp2_with fail
        refine (number_T (w.heap.size + 1) _ (rd_T45 l (i : Int)).f1 w _ H11.out.1 H11.out.2.1 (by have := HLp.out; simp only [List.length_append, be8_length, trB_length, headB_length, List.length_cons, List.length_nil]; omega)).mono ?_
        rintro e W12 ⟨rfl, hI, hB, hK⟩
        have H12 := Aside0.mk (And.intro hI (And.intro hB (And.intro (hK.blk (H11.out.2.2.1) hg45 (by decide)) trivial)))
        clear hI hB hK hc0
        clear H11
        have hc0 := blk_cell (H12.out.2.2.1)
        go_wp2_with fail
        refine (truth_T (w.heap.size + 1) _ (rd_T45 l (i : Int)).f2 w _ H12.out.1 H12.out.2.1 (by have := HLp.out; simp only [List.length_append, be8_length, trB_length, headB_length, List.length_cons, List.length_nil]; omega)).mono ?_
        rintro e W13 ⟨rfl, hI, hB, hK⟩
        have H13 := Aside0.mk (And.intro hI (And.intro hB (And.intro (hK.blk (H12.out.2.2.1) hg45 (by decide)) trivial)))
        clear hI hB hK hc0
        clear H12
        have hc0 := blk_cell (H13.out.2.2.1)
        go_wp2_with fail
        refine (number_T (w.heap.size + 1) _ ((rd_T45 l (i : Int)).f3.length : Int) w _ H13.out.1 H13.out.2.1 (by have := HLp.out; simp only [List.length_append, be8_length, trB_length, headB_length, List.length_cons, List.length_nil]; omega)).mono ?_
        rintro e W14 ⟨rfl, hI, hB, hK⟩
        have H14 := Aside0.mk (And.intro hI (And.intro hB (And.intro (hK.blk (H13.out.2.2.1) hg45 (by decide)) trivial)))
        clear hI hB hK hc0
        clear H13
        have hc0 := blk_cell (H14.out.2.2.1)
        go_wp2_with fail
        clear hc0
        have HI := Aside0.mk (show IsB w W14 (w.heap.size + 1) (headB a0 a1 a2 a3 l ++ pgsB (l.take i) ++ be8 (rd_T45 l (i : Int)).f0 ++ be8 (rd_T45 l (i : Int)).f1 ++ trB (rd_T45 l (i : Int)).f2 ++ be8 ((rd_T45 l (i : Int)).f3.length : Int)) from H14.out.1)
        have HB := Aside0.mk H14.out.2.1
        clear H14
        go_loopg [85] (rd_T45 l (i : Int)).f3.length (fun kq v85 wr => ∃ j : Nat, j + kq = (rd_T45 l (i : Int)).f3.length ∧ v85 = .int .i64 (j : Int) ∧ Aside0 (IsB w wr (w.heap.size + 1) (headB a0 a1 a2 a3 l ++ pgsB (l.take i) ++ be8 (rd_T45 l (i : Int)).f0 ++ be8 (rd_T45 l (i : Int)).f1 ++ trB (rd_T45 l (i : Int)).f2 ++ be8 ((rd_T45 l (i : Int)).f3.length : Int) ++ rwsB ((rd_T45 l (i : Int)).f3.take j))) ∧ Aside0 (Below w.heap.size w wr))
        case atStart => exact ⟨0, by omega, rfl, by simpa [rwsB] using HI, HB⟩
        case round =>
          clear HI HB
          obtain ⟨j, hj, rfl, HI, HB⟩ := hrel
          by_cases hltj : j < (rd_T45 l (i : Int)).f3.length
          · have HLr := Aside0.mk (show 48 + (pgsB (l.take i)).length + (25 + (rwsB ((rd_T45 l (i : Int)).f3.take j)).length) + (18 + (bxsB (rd_T48 (rd_T45 l (i : Int)).f3 (j : Int)).f3).length) + 8 ≤ 140737488355328 from by
              have h1 := take_flat_le rwB (rd_T45 l (i : Int)).f3 (j + 1)
              have h2 := take_flat rwB z48 (rd_T45 l (i : Int)).f3 j hltj
              have h3 := rwB_length ((rd_T45 l (i : Int)).f3.getD j z48)
              have h4 := HLp.out
              rw [h2, List.length_append] at h1
              simp only [rd_T48, Int.toNat_natCast]
              simp only [rwsB] at h4 ⊢
              omega)
            have hlm : (rd_T48 (rd_T45 l (i : Int)).f3 (j : Int)).f3.length ≤ 140737488355328 := by have h1 := flat_ge bxB (fun r => by rw [bxB_length]; omega) (rd_T48 (rd_T45 l (i : Int)).f3 (j : Int)).f3; have h2 := HLr.out; simp only [bxsB] at h2; omega
            have HEr := Aside0.mk (show rwsB ((rd_T45 l (i : Int)).f3.take (j + 1)) = rwsB ((rd_T45 l (i : Int)).f3.take j) ++ rwB (rd_T48 (rd_T45 l (i : Int)).f3 (j : Int)) from take_flat rwB z48 (rd_T45 l (i : Int)).f3 j hltj)
            obtain ⟨ad4, A4, c4, hA4, p0, p1, p2, p3, l4, g4⟩ := at_T48 G3.out (j : Int) (by omega) (by omega)
            subst hA4
            simp only [Int.toNat_natCast] at p0 p1 p2 p3
            have q0 := pw_cell_below HB.out p0
            have q1 := pw_cell_below HB.out p1
            have q2 := pw_cell_below HB.out p2
            have q3 := pw_cell_below HB.out p3
            have G4 := Aside0.mk g4
            have hg48 : wr.heap.size ≠ w.heap.size + 1 := by have := HI.out.lt; omega
            clear g4 p0 p1 p2 p3
            have HR0 := Aside0.mk (And.intro (HI.out.alloc (.cells #[.int .i64 (rd_T48 (rd_T45 l (i : Int)).f3 (j : Int)).f0, .bool (rd_T48 (rd_T45 l (i : Int)).f3 (j : Int)).f1, .bool (rd_T48 (rd_T45 l (i : Int)).f3 (j : Int)).f2, .slice A4 (rd_T48 (rd_T45 l (i : Int)).f3 (j : Int)).f3.length c4] 48)) (And.intro (below_alloc HB.out (.cells #[.int .i64 (rd_T48 (rd_T45 l (i : Int)).f3 (j : Int)).f0, .bool (rd_T48 (rd_T45 l (i : Int)).f3 (j : Int)).f1, .bool (rd_T48 (rd_T45 l (i : Int)).f3 (j : Int)).f2, .slice A4 (rd_T48 (rd_T45 l (i : Int)).f3 (j : Int)).f3.length c4] 48)) (And.intro (heap_alloc_new wr (.cells #[.int .i64 (rd_T48 (rd_T45 l (i : Int)).f3 (j : Int)).f0, .bool (rd_T48 (rd_T45 l (i : Int)).f3 (j : Int)).f1, .bool (rd_T48 (rd_T45 l (i : Int)).f3 (j : Int)).f2, .slice A4 (rd_T48 (rd_T45 l (i : Int)).f3 (j : Int)).f3.length c4] 48)) trivial)))
            clear HI HB
            go_wp2_with fail
            clear q0 q1 q2 q3
            refine (number_T (w.heap.size + 1) _ (rd_T48 (rd_T45 l (i : Int)).f3 (j : Int)).f0 w _ HR0.out.1 HR0.out.2.1 (by have := HLr.out; simp only [List.length_append, be8_length, trB_length, headB_length, List.length_cons, List.length_nil]; omega)).mono ?_
            rintro e W21 ⟨rfl, hI, hB, hK⟩
            have H21 := Aside0.mk (And.intro hI (And.intro hB (And.intro (hK.blk (HR0.out.2.2.1) hg48 (by decide)) trivial)))
            clear hI hB hK
            clear HR0
            have hc0 := blk_cell (H21.out.2.2.1)
            go_wp2_with fail
            refine (truth_T (w.heap.size + 1) _ (rd_T48 (rd_T45 l (i : Int)).f3 (j : Int)).f1 w _ H21.out.1 H21.out.2.1 (by have := HLr.out; simp only [List.length_append, be8_length, trB_length, headB_length, List.length_cons, List.length_nil]; omega)).mono ?_
            rintro e W22 ⟨rfl, hI, hB, hK⟩
            have H22 := Aside0.mk (And.intro hI (And.intro hB (And.intro (hK.blk (H21.out.2.2.1) hg48 (by decide)) trivial)))
            clear hI hB hK hc0
            clear H21
            have hc0 := blk_cell (H22.out.2.2.1)
            go_wp2_with fail
            refine (truth_T (w.heap.size + 1) _ (rd_T48 (rd_T45 l (i : Int)).f3 (j : Int)).f2 w _ H22.out.1 H22.out.2.1 (by have := HLr.out; simp only [List.length_append, be8_length, trB_length, headB_length, List.length_cons, List.length_nil]; omega)).mono ?_
            rintro e W23 ⟨rfl, hI, hB, hK⟩
            have H23 := Aside0.mk (And.intro hI (And.intro hB (And.intro (hK.blk (H22.out.2.2.1) hg48 (by decide)) trivial)))
            clear hI hB hK hc0
            clear H22
            have hc0 := blk_cell (H23.out.2.2.1)
            go_wp2_with fail
            refine (number_T (w.heap.size + 1) _ ((rd_T48 (rd_T45 l (i : Int)).f3 (j : Int)).f3.length : Int) w _ H23.out.1 H23.out.2.1 (by have := HLr.out; simp only [List.length_append, be8_length, trB_length, headB_length, List.length_cons, List.length_nil]; omega)).mono ?_
            rintro e W24 ⟨rfl, hI, hB, hK⟩
            have H24 := Aside0.mk (And.intro hI (And.intro hB (And.intro (hK.blk (H23.out.2.2.1) hg48 (by decide)) trivial)))
            clear hI hB hK hc0
            clear H23
            have hc0 := blk_cell (H24.out.2.2.1)
            go_wp2_with fail
            clear hc0
            have HI := Aside0.mk (show IsB w W24 (w.heap.size + 1) (headB a0 a1 a2 a3 l ++ pgsB (l.take i) ++ be8 (rd_T45 l (i : Int)).f0 ++ be8 (rd_T45 l (i : Int)).f1 ++ trB (rd_T45 l (i : Int)).f2 ++ be8 ((rd_T45 l (i : Int)).f3.length : Int) ++ rwsB ((rd_T45 l (i : Int)).f3.take j) ++ be8 (rd_T48 (rd_T45 l (i : Int)).f3 (j : Int)).f0 ++ trB (rd_T48 (rd_T45 l (i : Int)).f3 (j : Int)).f1 ++ trB (rd_T48 (rd_T45 l (i : Int)).f3 (j : Int)).f2 ++ be8 ((rd_T48 (rd_T45 l (i : Int)).f3 (j : Int)).f3.length : Int)) from H24.out.1)
            have HB := Aside0.mk H24.out.2.1
            clear H24
            go_loopg [109] (rd_T48 (rd_T45 l (i : Int)).f3 (j : Int)).f3.length (fun kq v109 wr => ∃ m : Nat, m + kq = (rd_T48 (rd_T45 l (i : Int)).f3 (j : Int)).f3.length ∧ v109 = .int .i64 (m : Int) ∧ Aside0 (IsB w wr (w.heap.size + 1) (headB a0 a1 a2 a3 l ++ pgsB (l.take i) ++ be8 (rd_T45 l (i : Int)).f0 ++ be8 (rd_T45 l (i : Int)).f1 ++ trB (rd_T45 l (i : Int)).f2 ++ be8 ((rd_T45 l (i : Int)).f3.length : Int) ++ rwsB ((rd_T45 l (i : Int)).f3.take j) ++ be8 (rd_T48 (rd_T45 l (i : Int)).f3 (j : Int)).f0 ++ trB (rd_T48 (rd_T45 l (i : Int)).f3 (j : Int)).f1 ++ trB (rd_T48 (rd_T45 l (i : Int)).f3 (j : Int)).f2 ++ be8 ((rd_T48 (rd_T45 l (i : Int)).f3 (j : Int)).f3.length : Int) ++ bxsB ((rd_T48 (rd_T45 l (i : Int)).f3 (j : Int)).f3.take m))) ∧ Aside0 (Below w.heap.size w wr))
            case atStart => exact ⟨0, by omega, rfl, by simpa [bxsB] using HI, HB⟩
            case round =>
              clear HI HB
              obtain ⟨m, hm, rfl, HI, HB⟩ := hrel
              by_cases hltm : m < (rd_T48 (rd_T45 l (i : Int)).f3 (j : Int)).f3.length
              · have HLb := Aside0.mk (show 48 + (pgsB (l.take i)).length + (25 + (rwsB ((rd_T45 l (i : Int)).f3.take j)).length) + (18 + (bxsB ((rd_T48 (rd_T45 l (i : Int)).f3 (j : Int)).f3.take m)).length) + (80 + (rd_T50 (rd_T48 (rd_T45 l (i : Int)).f3 (j : Int)).f3 (m : Int)).f2.size) + 8 ≤ 140737488355328 from by
                  have h1 := take_flat_le bxB (rd_T48 (rd_T45 l (i : Int)).f3 (j : Int)).f3 (m + 1)
                  have h2 := take_flat bxB z50 (rd_T48 (rd_T45 l (i : Int)).f3 (j : Int)).f3 m hltm
                  have h3 := bxB_length ((rd_T48 (rd_T45 l (i : Int)).f3 (j : Int)).f3.getD m z50)
                  have h4 := HLr.out
                  rw [h2, List.length_append] at h1
                  simp only [rd_T50, Int.toNat_natCast]
                  simp only [bxsB] at h4 ⊢
                  omega)
                have HEb := Aside0.mk (show bxsB ((rd_T48 (rd_T45 l (i : Int)).f3 (j : Int)).f3.take (m + 1)) = bxsB ((rd_T48 (rd_T45 l (i : Int)).f3 (j : Int)).f3.take m) ++ bxB (rd_T50 (rd_T48 (rd_T45 l (i : Int)).f3 (j : Int)).f3 (m : Int)) from take_flat bxB z50 (rd_T48 (rd_T45 l (i : Int)).f3 (j : Int)).f3 m hltm)
                obtain ⟨ad5, hA5, p0, p1, p2, p3, p4, p5, p6, p7, p8, p9⟩ := at_T50 G4.out (m : Int) (by omega) (by omega)
                subst hA5
                simp only [Int.toNat_natCast] at p0 p1 p2 p3 p4 p5 p6 p7 p8 p9
                have q0 := pw_cell_below HB.out p0
                have q1 := pw_cell_below HB.out p1
                have q2 := pw_cell_below HB.out p2
                have q3 := pw_cell_below HB.out p3
                have q4 := pw_cell_below HB.out p4
                have q5 := pw_cell_below HB.out p5
                have q6 := pw_cell_below HB.out p6
                have q7 := pw_cell_below HB.out p7
                have q8 := pw_cell_below HB.out p8
                have q9 := pw_cell_below HB.out p9
                clear p0 p1 p2 p3 p4 p5 p6 p7 p8 p9
                go_wp2_with fail
                refine (box_T (w.heap.size + 1) _ (rd_T50 (rd_T48 (rd_T45 l (i : Int)).f3 (j : Int)).f3 (m : Int)).f0 (rd_T50 (rd_T48 (rd_T45 l (i : Int)).f3 (j : Int)).f3 (m : Int)).f1 (rd_T50 (rd_T48 (rd_T45 l (i : Int)).f3 (j : Int)).f3 (m : Int)).f2 (rd_T50 (rd_T48 (rd_T45 l (i : Int)).f3 (j : Int)).f3 (m : Int)).f3 (rd_T50 (rd_T48 (rd_T45 l (i : Int)).f3 (j : Int)).f3 (m : Int)).f4 (rd_T50 (rd_T48 (rd_T45 l (i : Int)).f3 (j : Int)).f3 (m : Int)).f5 (rd_T50 (rd_T48 (rd_T45 l (i : Int)).f3 (j : Int)).f3 (m : Int)).f6 (rd_T50 (rd_T48 (rd_T45 l (i : Int)).f3 (j : Int)).f3 (m : Int)).f7 (rd_T50 (rd_T48 (rd_T45 l (i : Int)).f3 (j : Int)).f3 (m : Int)).f8 (rd_T50 (rd_T48 (rd_T45 l (i : Int)).f3 (j : Int)).f3 (m : Int)).f9 w _ (HI.out.alloc _) (below_alloc HB.out _) (by have := HLb.out; simp only [List.length_append, be8_length, trB_length, headB_length, List.length_cons, List.length_nil]; omega)).mono ?_
                rintro e W30 ⟨rfl, hI, hB, hK⟩
                have HI2 := Aside0.mk hI
                have HB2 := Aside0.mk hB
                clear hI hB hK q0 q1 q2 q3 q4 q5 q6 q7 q8 q9 HI HB
                go_wp2_with fail
                go_roundg ((rd_T48 (rd_T45 l (i : Int)).f3 (j : Int)).f3.length - (m + 1))
                case measure => omega
                case rel => exact ⟨m + 1, by omega, by go_num, ⟨by have h := HI2.out; rw [HEb.out, ← List.append_assoc]; exact h⟩, HB2⟩
              · have hme : m = (rd_T48 (rd_T45 l (i : Int)).f3 (j : Int)).f3.length := by omega
                have HI2 := Aside0.mk (show IsB w wr (w.heap.size + 1) (headB a0 a1 a2 a3 l ++ pgsB (l.take i) ++ be8 (rd_T45 l (i : Int)).f0 ++ be8 (rd_T45 l (i : Int)).f1 ++ trB (rd_T45 l (i : Int)).f2 ++ be8 ((rd_T45 l (i : Int)).f3.length : Int) ++ rwsB ((rd_T45 l (i : Int)).f3.take (j + 1))) from by
                  have h := HI.out
                  rw [hme, List.take_length] at h
                  rw [HEr.out]
                  simpa only [rwB, List.append_assoc] using h)
                have hmd : decide ((m : Int) < ((rd_T48 (rd_T45 l (i : Int)).f3 (j : Int)).f3.length : Int)) = false := by simp; omega
                clear HI hme
                go_wp2_with fail
                go_roundg ((rd_T45 l (i : Int)).f3.length - (j + 1))
                case measure => omega
                case rel => exact ⟨j + 1, by omega, by go_num, HI2, HB⟩
          · have hje : j = (rd_T45 l (i : Int)).f3.length := by omega
            have HI2 := Aside0.mk (show IsB w wr (w.heap.size + 1) (headB a0 a1 a2 a3 l ++ pgsB (l.take (i + 1))) from by
              have h := HI.out
              rw [hje, List.take_length] at h
              rw [HEp.out]
              simpa only [pgB, List.append_assoc] using h)
            clear HI hje
            go_wp2_with fail
            go_roundg (l.length - (i + 1))
            case measure => omega
            case rel => exact ⟨i + 1, by omega, by go_num, HI2, HB⟩
      · have hie : i = l.length := by omega
        have HI2 := Aside0.mk (show IsB w wr (w.heap.size + 1) (bodyB a0 a1 a2 a3 l) from by
          have h := HI.out
          rw [hie, List.take_length] at h
          exact h)
        clear HI hie
        obtain ⟨v, hb, hg, hR⟩ := HI2.out
        obtain ⟨Av, cv, rfl, hcv, hCv⟩ := Kd.R_reads hR
        have hcell := (blk_cell hb 0).trans rfl
        have HCv := Aside0.mk hCv
        clear hb hg hR hCv
        go_wp2_with fail
        refine (answer_sum.calls _ Av cv (bodyB a0 a1 a2 a3 l) _ wr HCv.out hcv (sum_tells _ (by have := HL.out; omega))).mono ?_
        rintro e W40 ⟨rfl, hD⟩
        have HB4 := Aside0.mk (below_step HB.out hD.below)
        have HI4 := Aside0.mk (HI2.out.below hD.below)
        clear hD hcell HI2 HB
        go_wp2_with fail
        refine (number_T (w.heap.size + 1) _ (wrap64 (fnvs (bodyB a0 a1 a2 a3 l))) w _ HI4.out HB4.out (by have := HL.out; omega)).mono ?_
        rintro e W41 ⟨rfl, hI, hB, hK⟩
        have HB5 := Aside0.mk hB
        obtain ⟨v, hb, hg, hR⟩ := hI
        have hcell := (blk_cell hb 0).trans rfl
        have HR5 := Aside0.mk hR
        clear hB hK hb hg hR HI4 HB4
        go_wp2_with fail
        go_ret2
        exact ⟨v, rfl, HR5.out, HB5.out⟩

end Go.Proofs.Ytihiapjfdgoomaa.A
