/- Contracts of the reader of package answer. Contracts of the reader of package answer: numbers. Contracts of the reader of package answer: truths, texts, boxes. -/
import Derived.Test.YtihiapjfdgoomaaA3
import Derived.Test.YtihiapjfdgoomaaPx0
namespace Go.Proofs.Ytihiapjfdgoomaa.A
open Go.RowKit Go.Proofs.YtihiapjfdgoomaaW.PrintWords Go.Proofs.YtihiapjfdgoomaaW.PrintLast Go.Proofs.YtihiapjfdgoomaaW.PrintMore
open Go.Proofs.Ytihiapjfdgoomaa.P
set_option linter.unusedVariables false
set_option linter.unusedSimpArgs false

/-- Bytes that are read: at A, of the elder world. -/
def Byt (w0 : World) (A : Option Addr) (c : Nat) (bs : List Int) : Prop := (Kd.int .u8).C w0 A bs.length bs ∧ bs.length ≤ c
/-- A reader at block g: the bytes that are left, whether they are bad. -/
def IsRd (w0 W : World) (g : Nat) (bs : List Int) (bad : Bool) : Prop :=
  ∃ A c, W.heap[g]? = some (.cells #[.slice A bs.length c, .bool bad] 70 (0, 0)) ∧ w0.heap.size ≤ g ∧ Byt w0 A c bs

def tk (n : Int) (bs : List Int) (bad : Bool) : List Int × List Int × Bool :=
  if bad = true ∨ n < 0 ∨ (bs.length : Int) < n then ([], bs, true) else (bs.take n.toNat, bs.drop n.toNat, false)

theorem IsRd.lt {w0 W : World} {g : Nat} {bs : List Int} {bad : Bool} (h : IsRd w0 W g bs bad) : g < W.heap.size := by
  obtain ⟨A, c, hb, _⟩ := h
  exact blk_lt hb
theorem IsRd.keep {w0 W W1 : World} {g g' : Nat} {bs : List Int} {bad : Bool} (h : IsRd w0 W g bs bad) (hk : Below W.heap.size W W1) : IsRd w0 W1 g bs bad := by
  obtain ⟨A, c, hb, hg, hB⟩ := h
  exact ⟨A, c, (hk.block g (blk_lt hb)).trans hb, hg, hB⟩
theorem IsRd.alloc {w0 W : World} {g : Nat} {bs : List Int} {bad : Bool} (h : IsRd w0 W g bs bad) (o : Obj) : IsRd w0 (W.alloc o) g bs bad := h.keep (g' := 0) (below_alloc (Below.refl _ _) o)

theorem take_calls (g : Nat) (n : Int) (bs : List Int) (bad : Bool) (w0 w : World) (hI : IsRd w0 w g bs bad) (hB : Below w0.heap.size w0 w) :
    Calls Try.prog 40 #[.pointer (some ⟨g, 0, none⟩), .int .i64 n] w fun e w' => ∃ A c, e = .returned (.slice A (tk n bs bad).1.length c) ∧ Byt w0 A c (tk n bs bad).1 ∧
      IsRd w0 w' g (tk n bs bad).2.1 (tk n bs bad).2.2 ∧ Below w0.heap.size w0 w' ∧ KeepBut w w' g none := by
  obtain ⟨A, c, hb, hg, hC, hc⟩ := hI
  have hcell := blk_cell hb
  have hfr := blk_frozen hb
  have HB := Aside0.mk hB
  have HC := Aside0.mk hC
  have HBK := Aside0.mk hb
  clear hB hC hb
  by_cases hbad : bad = true ∨ n < 0 ∨ (bs.length : Int) < n
  · have e1 : tk n bs bad = ([], bs, true) := if_pos hbad
    rw [e1]
    have HE := Aside0.mk hbad
    clear hbad e1
    go_enter Try.func40, Try.ntmps40
    go_upto_region 1 with (fail)
    go_cut [22] (fun v22 wc => v22 = .bool true ∧ wc = w)
    case first =>
      rcases HE.out with rfl | h
      · go_wp2
        go_meet
        case rel => exact ⟨rfl, rfl⟩
      rcases h with h | h
      · have h1 : decide (n < 0) = true := by simpa using h
        cases bad <;> (go_wp2; go_meet; case rel => exact ⟨by first | rfl | simp [h1], rfl⟩)
      · have h1 : decide ((bs.length : Int) < n) = true := by simpa using h
        have h0 : decide (n < 0) = false := by simp; omega
        cases bad <;> (go_wp2; go_meet; case rel => exact ⟨by first | rfl | simp [h1], rfl⟩)
    case rest =>
      obtain ⟨rfl, rfl⟩ := hcut
      go_wp2
      go_ret
      exact ⟨none, 0, rfl, ⟨Kd.C_nil _ _, by simp⟩, ⟨A, c, by simpa using blk_put HBK.out 1 (.bool true) rfl, hg, HC.out, hc⟩, below_set HB.out hg, (KeepBut.refl _ _ _).set_ 1 _⟩
  · have e1 : tk n bs bad = (bs.take n.toNat, bs.drop n.toNat, false) := if_neg hbad
    rw [e1]
    obtain ⟨h0, h1, h2⟩ : bad = false ∧ 0 ≤ n ∧ n ≤ bs.length := by
      refine ⟨by cases bad <;> simp_all, by omega, by omega⟩
    subst h0
    obtain ⟨m, rfl⟩ := Int.eq_ofNat_of_zero_le h1
    clear hbad e1
    have h3 : decide ((m : Int) < 0) = false := by simp
    have h4 : decide ((bs.length : Int) < (m : Int)) = false := by simp; omega
    have h5 : m ≤ bs.length := by omega
    have h6 : m ≤ c := by omega
    have hd := Kd.C_drop (m := m) HC.out h5 hc
    have ht : Byt w0 A c (bs.take m) := ⟨Kd.C_take HC.out h5, by simp; omega⟩
    have HT := Aside0.mk ht
    have HD := Aside0.mk hd
    clear ht hd
    go_enter Try.func40, Try.ntmps40
    go_wp2
    · rename_i h
      go_ret
      refine ⟨A, m, rfl, h ▸ HT.out, ⟨A, 0, by simpa using blk_put HBK.out 0 (.slice A (bs.length - m) 0) rfl, hg, ?_, by simp; omega⟩, below_set HB.out hg, (KeepBut.refl _ _ _).set_ 0 _⟩
      have := HD.out
      rwa [if_pos h] at this
    · rename_i h
      go_ret
      refine ⟨A, c, rfl, HT.out, ⟨_, c - m, by simpa using blk_put HBK.out 0 (.slice (Option.map (fun x => x.add m) A) (bs.length - m) (c - m)) rfl, hg, ?_, by simp; omega⟩, below_set HB.out hg, (KeepBut.refl _ _ _).set_ 0 _⟩
      have := HD.out
      rw [if_neg h] at this
      simpa [Kd.int, Kd.scalar] using this
end Go.Proofs.Ytihiapjfdgoomaa.A
namespace Go.Proofs.Ytihiapjfdgoomaa.A
open Go.RowKit Go.Proofs.YtihiapjfdgoomaaW.PrintWords Go.Proofs.YtihiapjfdgoomaaW.PrintLast Go.Proofs.YtihiapjfdgoomaaW.PrintMore
open Go.Proofs.Ytihiapjfdgoomaa.P
set_option linter.unusedVariables false
set_option linter.unusedSimpArgs false

theorem byt_at {w0 : World} {A : Option Addr} {c : Nat} {bs : List Int} (h : Byt w0 A c bs) (i : Nat) (hi : i < bs.length) : ∃ ad, A = some ad ∧ w0.cell? (ad.add i) = some (.int .u8 (rd bs (i : Int))) := by
  obtain ⟨ad, hA, hc⟩ := (Kd.reads_of_C (enc := Value.int .u8) (d := (0 : Int)) (h1 := fun _ => rfl) h.1).2.2 (by omega)
  exact ⟨ad, hA, by rw [hc i hi]; simp [rd]⟩
theorem byt_len {w0 : World} {A : Option Addr} {c : Nat} {bs : List Int} (h : Byt w0 A c bs) : bs.length ≤ 9223372036854775807 :=
  (Kd.reads_of_C (enc := Value.int .u8) (d := (0 : Int)) (h1 := fun _ => rfl) h.1).2.1

def step8 (n c : Int) : Int := Go.bits .or .u64 (IntKind.u64.wrap (n * 256)) (IntKind.u64.wrap c)
def fold8 (bs : List Int) : Int := bs.foldl step8 0
theorem fold8_snoc (bs : List Int) (i : Nat) (h : i < bs.length) : fold8 (bs.take (i + 1)) = step8 (fold8 (bs.take i)) (rd bs (i : Int)) := by
  unfold fold8
  rw [List.take_succ_eq_append_getElem h, List.foldl_append]
  simp [rd, List.getD_eq_getElem?_getD, List.getElem?_eq_getElem h]
def numR (bs : List Int) (bad : Bool) : Int × List Int × Bool := (wrap64 (fold8 (tk 8 bs bad).1), (tk 8 bs bad).2.1, (tk 8 bs bad).2.2)

theorem num_calls (g : Nat) (bs : List Int) (bad : Bool) (w0 w : World) (hI : IsRd w0 w g bs bad) (hB : Below w0.heap.size w0 w) :
    Calls Try.prog 30 #[.pointer (some ⟨g, 0, none⟩)] w fun e w' => e = .returned (.int .i64 (numR bs bad).1) ∧
      IsRd w0 w' g (numR bs bad).2.1 (numR bs bad).2.2 ∧ Below w0.heap.size w0 w' ∧ KeepBut w w' g none := by
  have HI := Aside0.mk hI
  have HB := Aside0.mk hB
  clear hI hB
  go_enter Try.func30, Try.ntmps30
  go_wp2_with fail
  refine (take_calls g 8 bs bad w0 w HI.out HB.out).mono ?_
  rintro e w1 ⟨A, c, rfl, hT, hI, hB, hK⟩
  obtain ⟨xs, hxs⟩ : ∃ xs, xs = (tk 8 bs bad).1 := ⟨_, rfl⟩
  rw [← hxs] at hT
  rw [← hxs]
  have HX := Aside0.mk hxs
  have HT := Aside0.mk hT
  have HI := Aside0.mk hI
  have HB := Aside0.mk hB
  have HK := Aside0.mk hK
  have hlen := byt_len hT
  clear hxs hT hI hB hK
  go_wp2_with fail
  go_loopg [3, 9] xs.length (fun kq v3 v9 wr => ∃ i : Nat, i + kq = xs.length ∧ v9 = .int .i64 (i : Int) ∧ v3 = .int .u64 (fold8 (xs.take i)) ∧ wr = w1)
  case atStart => exact ⟨0, by omega, rfl, rfl, rfl⟩
  case round =>
    obtain ⟨i, hi, rfl, rfl, rfl⟩ := hrel
    by_cases hlt : i < xs.length
    · obtain ⟨ad, hA, q0⟩ := byt_at HT.out i hlt
      subst hA
      have q := pw_cell_below HB.out q0
      have hf := Aside0.mk (fold8_snoc xs i hlt)
      clear q0
      go_wp2
      go_roundg (xs.length - (i + 1))
      case measure => omega
      case rel => exact ⟨i + 1, by omega, by go_num, by rw [hf.out]; rfl, rfl⟩
    · have hie : i = xs.length := by omega
      have hf : fold8 (xs.take i) = fold8 xs := by rw [hie, List.take_length]
      rw [hf]
      clear hf
      go_wp2
      go_ret
      exact ⟨by rw [HX.out]; rfl, HI.out, HB.out, HK.out⟩

def mnyR (least : Int) (bs : List Int) (bad : Bool) : Int × List Int × Bool :=
  if (numR bs bad).1 < 0 ∨ ((numR bs bad).2.1.length : Int) / least < (numR bs bad).1 then (0, (numR bs bad).2.1, true) else numR bs bad

theorem many_calls (g : Nat) (least : Int) (hl : 1 ≤ least) (bs : List Int) (bad : Bool) (w0 w : World) (hI : IsRd w0 w g bs bad) (hB : Below w0.heap.size w0 w) :
    Calls Try.prog 31 #[.pointer (some ⟨g, 0, none⟩), .int .i64 least] w fun e w' => e = .returned (.int .i64 (mnyR least bs bad).1) ∧
      IsRd w0 w' g (mnyR least bs bad).2.1 (mnyR least bs bad).2.2 ∧ Below w0.heap.size w0 w' ∧ KeepBut w w' g none := by
  have HI := Aside0.mk hI
  have HB := Aside0.mk hB
  clear hI hB
  obtain ⟨n, hn⟩ : ∃ n, n = (numR bs bad).1 := ⟨_, rfl⟩
  obtain ⟨rs, hrs⟩ : ∃ n, n = (numR bs bad).2.1 := ⟨_, rfl⟩
  obtain ⟨b2, hb2⟩ : ∃ n, n = (numR bs bad).2.2 := ⟨_, rfl⟩
  have hm : mnyR least bs bad = if n < 0 ∨ (rs.length : Int) / least < n then (0, rs, true) else (n, rs, b2) := by
    unfold mnyR; rw [hn, hrs, hb2]
  have HM := Aside0.mk hm
  have HN := Aside0.mk hn
  have HRS := Aside0.mk hrs
  have HB2 := Aside0.mk hb2
  clear hm hn hrs hb2
  go_enter Try.func31, Try.ntmps31
  go_wp2_with fail
  refine (num_calls g bs bad w0 w HI.out HB.out).mono ?_
  rintro e w1 ⟨rfl, hI, hB, hK⟩
  rw [← HRS.out, ← HB2.out] at hI
  rw [← HN.out]
  obtain ⟨A, c, hb, hg, hT⟩ := hI
  have hcell := blk_cell hb
  have hfr := blk_frozen hb
  have HB1 := Aside0.mk hB
  have HK := Aside0.mk hK
  have HT := Aside0.mk hT
  have HBK := Aside0.mk hb
  have hlen := byt_len hT
  have hq0 : 0 ≤ (rs.length : Int) / least := Int.ediv_nonneg (by omega) (by omega)
  have hq1 : (rs.length : Int) / least ≤ rs.length := Int.ediv_le_self _ (by omega)
  clear HN HRS HB2 hb hT hB hK
  by_cases h : n < 0 ∨ (rs.length : Int) / least < n
  · have H := Aside0.mk h
    clear h
    go_upto_region 2 with (fail)
    go_cut [20] (fun v20 wc => v20 = .bool true ∧ wc = w1)
    case first =>
      by_cases h1 : n < 0
      · have h1' : decide (n < 0) = true := by simpa using h1
        clear h1
        go_wp2
        go_meet
        case rel => exact ⟨rfl, rfl⟩
      · have h1' : decide (n < 0) = false := by simpa using h1
        have h2 : decide ((rs.length : Int) / least < n) = true := by have := H.out; simp; omega
        clear h1
        go_wp2
        go_meet
        case rel => exact ⟨rfl, rfl⟩
    case rest =>
      obtain ⟨rfl, rfl⟩ := hcut
      go_wp2
      go_ret
      rw [HM.out, if_pos H.out]
      exact ⟨rfl, ⟨A, c, by simpa using blk_put HBK.out 1 (.bool true) rfl, hg, HT.out⟩, below_set HB1.out hg, HK.out.set_ 1 _⟩
  · have H := Aside0.mk h
    have h1 : decide (n < 0) = false := by simp; omega
    have h2 : decide ((rs.length : Int) / least < n) = false := by simp; omega
    clear h
    go_wp2
    go_ret
    rw [HM.out, if_neg H.out]
    exact ⟨rfl, ⟨A, c, HBK.out, hg, HT.out⟩, HB1.out, HK.out⟩
end Go.Proofs.Ytihiapjfdgoomaa.A
namespace Go.Proofs.Ytihiapjfdgoomaa.A
open Go.RowKit Go.Proofs.YtihiapjfdgoomaaW.PrintWords Go.Proofs.YtihiapjfdgoomaaW.PrintLast Go.Proofs.YtihiapjfdgoomaaW.PrintMore
open Go.Proofs.Ytihiapjfdgoomaa.P
set_option linter.unusedVariables false
set_option linter.unusedSimpArgs false

theorem KeepBut.then_ {w w1 w2 : World} {g : Nat} (h : KeepBut w w1 g none) (k : KeepBut w1 w2 g none) : KeepBut w w2 g none := KeepBut.trans h k (.inl rfl)

def truR (bs : List Int) (bad : Bool) : Bool × List Int × Bool :=
  if (tk 1 bs bad).1 = [] then (false, (tk 1 bs bad).2.1, (tk 1 bs bad).2.2)
  else (rd (tk 1 bs bad).1 0 == 1, (tk 1 bs bad).2.1, (tk 1 bs bad).2.2 || decide (1 < rd (tk 1 bs bad).1 0))

theorem truth_rd (g : Nat) (bs : List Int) (bad : Bool) (w0 w : World) (hI : IsRd w0 w g bs bad) (hB : Below w0.heap.size w0 w) :
    Calls Try.prog 41 #[.pointer (some ⟨g, 0, none⟩)] w fun e w' => e = .returned (.bool (truR bs bad).1) ∧
      IsRd w0 w' g (truR bs bad).2.1 (truR bs bad).2.2 ∧ Below w0.heap.size w0 w' ∧ KeepBut w w' g none := by
  have HI := Aside0.mk hI
  have HB := Aside0.mk hB
  clear hI hB
  obtain ⟨xs, hxs⟩ : ∃ n, n = (tk 1 bs bad).1 := ⟨_, rfl⟩
  obtain ⟨rs, hrs⟩ : ∃ n, n = (tk 1 bs bad).2.1 := ⟨_, rfl⟩
  obtain ⟨b2, hb2⟩ : ∃ n, n = (tk 1 bs bad).2.2 := ⟨_, rfl⟩
  have hm : truR bs bad = if xs = [] then (false, rs, b2) else (rd xs 0 == 1, rs, b2 || decide (1 < rd xs 0)) := by
    unfold truR; rw [hxs, hrs, hb2]
  have HM := Aside0.mk hm
  have HN := Aside0.mk hxs
  have HRS := Aside0.mk hrs
  have HB2 := Aside0.mk hb2
  clear hm hxs hrs hb2
  go_enter Try.func41, Try.ntmps41
  go_wp2_with fail
  refine (take_calls g 1 bs bad w0 w HI.out HB.out).mono ?_
  rintro e w1 ⟨A, c, rfl, hT, hI, hB, hK⟩
  rw [← HRS.out, ← HB2.out] at hI
  rw [← HN.out] at hT
  rw [← HN.out]
  obtain ⟨A', c', hb, hg, hT'⟩ := hI
  have hcell := blk_cell hb
  have hfr := blk_frozen hb
  have HB1 := Aside0.mk hB
  have HK := Aside0.mk hK
  have HT := Aside0.mk hT
  have HT' := Aside0.mk hT'
  have HBK := Aside0.mk hb
  clear HN HRS HB2 hb hT hT' hB hK HB HI
  by_cases h : xs.length = 0
  · have h0 : xs = [] := List.eq_nil_of_length_eq_zero h
    have HM1 := Aside0.mk (show truR bs bad = (false, rs, b2) from by rw [HM.out, if_pos h0])
    subst h0
    clear h HM
    go_wp2
    go_ret
    rw [HM1.out]
    exact ⟨rfl, ⟨A', c', HBK.out, hg, HT'.out⟩, HB1.out, HK.out⟩
  · have hp : 0 < xs.length := by omega
    have hz : ((xs.length : Int) == 0) = false := by simpa using h
    have hz' : (xs.length == 0) = false := by simpa using h
    have HNE := Aside0.mk (show xs ≠ [] from fun h0 => h (by rw [h0]; rfl))
    obtain ⟨ad, hA, q0⟩ := byt_at HT.out 0 hp
    subst hA
    have q := pw_cell_below HB1.out q0
    have hne : ad.block ≠ g := by have := World.block_lt_of_cell? w0 _ q0; simp [add_block] at this; omega
    clear q0 h
    have ha : ad.add 0 = ad := by unfold Addr.add; rfl
    rw [ha] at q
    obtain ⟨x, hx⟩ : ∃ x, x = rd xs 0 := ⟨_, rfl⟩
    have e0 : rd xs ((0 : Nat) : Int) = x := by rw [hx]; rfl
    rw [e0] at q
    have HX := Aside0.mk hx
    have q' := fun u => (cell_far (W := w1) (p := ⟨g, 1, none⟩) hne u).trans q
    clear hx e0 ha hne
    cases b2 with
    | true =>
      go_wp2
      go_ret
      rw [HM.out, if_neg HNE.out, ← HX.out]
      exact ⟨rfl, ⟨A', c', by simpa using blk_put HBK.out 1 (.bool true) rfl, hg, HT'.out⟩, below_set HB1.out hg, HK.out.set_ 1 _⟩
    | false =>
      go_wp2
      go_ret
      rw [HM.out, if_neg HNE.out, ← HX.out]
      exact ⟨rfl, ⟨A', c', by simpa using blk_put HBK.out 1 (.bool (decide (1 < x))) rfl, hg, HT'.out⟩, below_set HB1.out hg, HK.out.set_ 1 _⟩

def txtR (bs : List Int) (bad : Bool) : ByteArray × List Int × Bool :=
  (strOfNums (tk (numR bs bad).1 (numR bs bad).2.1 (numR bs bad).2.2).1, (tk (numR bs bad).1 (numR bs bad).2.1 (numR bs bad).2.2).2.1, (tk (numR bs bad).1 (numR bs bad).2.1 (numR bs bad).2.2).2.2)

theorem text_rd (g : Nat) (bs : List Int) (bad : Bool) (w0 w : World) (hI : IsRd w0 w g bs bad) (hB : Below w0.heap.size w0 w) :
    Calls Try.prog 49 #[.pointer (some ⟨g, 0, none⟩)] w fun e w' => e = .returned (.string (txtR bs bad).1) ∧
      IsRd w0 w' g (txtR bs bad).2.1 (txtR bs bad).2.2 ∧ Below w0.heap.size w0 w' ∧ KeepBut w w' g none := by
  have HI := Aside0.mk hI
  have HB := Aside0.mk hB
  clear hI hB
  go_enter Try.func49, Try.ntmps49
  go_wp2_with fail
  refine (num_calls g bs bad w0 w HI.out HB.out).mono ?_
  rintro e w1 ⟨rfl, hI, hB, hK⟩
  have HI1 := Aside0.mk hI
  have HB1 := Aside0.mk hB
  have HK1 := Aside0.mk hK
  clear HI HB hI hB hK
  go_wp2_with fail
  refine (take_calls g _ _ _ w0 w1 HI1.out HB1.out).mono ?_
  rintro e w2 ⟨A, c, rfl, hT, hI, hB, hK⟩
  have HI2 := Aside0.mk hI
  have HB2 := Aside0.mk hB
  have HK2 := Aside0.mk (KeepBut.then_ HK1.out hK)
  have hcv : (convert 32 9 (.slice A (tk (numR bs bad).1 (numR bs bad).2.1 (numR bs bad).2.2).1.length c)).run Try.prog w2 = .ok (.string (strOfNums (tk (numR bs bad).1 (numR bs bad).2.1 (numR bs bad).2.2).1)) w2 :=
    Kd.C_string Try.underlying32 Try.underlying5 Try.underlying9 (Kd.C_below hT.1 hB)
  clear hI hB hK hT HI1 HB1 HK1
  go_wp2
  go_ret
  exact ⟨rfl, HI2.out, HB2.out, HK2.out⟩
end Go.Proofs.Ytihiapjfdgoomaa.A
