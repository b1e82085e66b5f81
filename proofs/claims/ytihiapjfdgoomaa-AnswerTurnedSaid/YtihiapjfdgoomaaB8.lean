/- The contract of answer.Get. -/
import Derived.Test.YtihiapjfdgoomaaB7
namespace Go.Proofs.Ytihiapjfdgoomaa.A
open Go.RowKit Go.Proofs.YtihiapjfdgoomaaW.PrintWords Go.Proofs.YtihiapjfdgoomaaW.PrintLast Go.Proofs.YtihiapjfdgoomaaW.PrintMore
open Go.Proofs.Ytihiapjfdgoomaa.P
set_option linter.unusedVariables false
set_option linter.unusedSimpArgs false

/-- What Get's call comes to. -/
def GetPost (w : World) (b : List Int) (e : Ending) (w' : World) : Prop :=
  ∃ v, e = .returned (.tuple #[.agg #[.int .i64 (getF b).1, .int .i64 (getF b).2.1, .int .i64 (getF b).2.2.1, .int .i64 (getF b).2.2.2.1, v], .int .i64 (getF b).2.2.2.2.2]) ∧
    Kd.S k45A 45 w' w.heap.size (fun k => w.heap.size ≤ k) v (getF b).2.2.2.2.1 ∧ Below w.heap.size w w'

theorem getF_no {b : List Int} (h : ¬ (56 ≤ b.length ∧ markOk b = true ∧ sumOk b = true ∧ gOk b = true)) : getF b = (0, 0, 0, 0, [], 200) := if_neg h
theorem getF_yes {b : List Int} (h : 56 ≤ b.length ∧ markOk b = true ∧ sumOk b = true ∧ gOk b = true) : getF b = (nv (g0 b), nv (ns (g0 b)), nv (ns (ns (g0 b))), nv (ns (ns (ns (g0 b)))), gP b, 0) := if_pos h

/-- The refusals ahead of the check sum. -/
theorem get_early (A : Option Addr) (c : Nat) (b : List Int) (w : World) (hT : Byt w A c b) (hl : b.length ≤ 1099511627776) (h : b.length < 56 ∨ markOk b = false) :
    Calls Try.prog 15 #[.slice A b.length c] w (GetPost w b) := by
  have HG := Aside0.mk (getF_no (b := b) (by rintro ⟨h1, h2, _⟩; rcases h with h | h; omega; rw [h] at h2; cases h2))
  have HT := Aside0.mk hT
  by_cases h1 : b.length < 56
  · have h2 : decide ((b.length : Int) - 8 < 48) = true := by simp; omega
    clear h hT h1
    go_enter Try.func15, Try.ntmps15
    go_wp2
    refine bodyPost_ret (v := .tuple #[.agg #[.int .i64 0, .int .i64 0, .int .i64 0, .int .i64 0, .slice none 0 0], .int .i64 200]) (by simp [results, Try.results15, go_sem]) rfl ⟨.slice none 0 0, by rw [HG.out], by rw [HG.out]; exact Kd.S_nil _ _ _ _ _, ?_⟩
    repeat (first | exact Below.refl _ _ | apply below_alloc)
  · have hm : markOk b = false := h.resolve_left h1
    have h2 : decide ((b.length : Int) - 8 < 48) = false := by simp; omega
    have h3 : 8 ≤ b.length := by omega
    have h4 : 8 ≤ c := by have := hT.2; omega
    have hcv : (convert 32 9 (.slice A 8 c)).run Try.prog (w.alloc (.cells #[.int .i64 0, .int .i64 0, .int .i64 0, .int .i64 0, .slice none 0 0] 27)) = .ok (.string (strOfNums (b.take 8))) (w.alloc (.cells #[.int .i64 0, .int .i64 0, .int .i64 0, .int .i64 0, .slice none 0 0] 27)) := by
      have h := Kd.C_below (Kd.C_take hT.1 h3) (below_alloc (Below.refl w.heap.size w) (.cells #[.int .i64 0, .int .i64 0, .int .i64 0, .int .i64 0, .slice none 0 0] 27))
      have hl8 : (b.take 8).length = 8 := by simp; omega
      rw [hl8] at h
      exact Kd.C_string Try.underlying32 Try.underlying5 Try.underlying9 h
    have h5 : ((strOfNums (b.take 8)).toList == [112, 108, 97, 116, 101, 110, 65, 49]) = false := hm
    clear h hT h1 hm
    go_enter Try.func15, Try.ntmps15
    go_wp2
    refine bodyPost_ret (v := .tuple #[.agg #[.int .i64 0, .int .i64 0, .int .i64 0, .int .i64 0, .slice none 0 0], .int .i64 200]) (by simp [results, Try.results15, go_sem]) rfl ⟨.slice none 0 0, by rw [HG.out], by rw [HG.out]; exact Kd.S_nil _ _ _ _ _, ?_⟩
    repeat (first | exact Below.refl _ _ | apply below_alloc)

theorem byt_drop {w : World} {A : Option Addr} {c n : Nat} {b : List Int} (h : Byt w A c b) (hn : n < c) (hb : n ≤ b.length) : Byt w (A.map (fun x => x.add n)) (c - n) (b.drop n) := by
  have h1 := Kd.C_drop (m := n) h.1 hb h.2
  rw [if_neg (by omega)] at h1
  exact ⟨by simpa [Kd.int, Kd.scalar] using h1, by have := h.2; simp; omega⟩
theorem byt_take {w : World} {A : Option Addr} {c n : Nat} {b : List Int} (h : Byt w A c b) (hb : n ≤ b.length) : Byt w A c (b.take n) := ⟨Kd.C_take h.1 hb, by have := h.2; simp; omega⟩

abbrev Z27 : Array Value := #[.int .i64 0, .int .i64 0, .int .i64 0, .int .i64 0, .slice none 0 0]
/-- A new reader. -/
theorem Fr.fresh {w W : World} {A : Option Addr} {c : Nat} {bs : List Int} (hT : Byt w A c bs) (hB : Below w.heap.size w W) {L : List (Nat × Nat × Array Value)}
    (hL : ∀ x ∈ L, W.heap[x.1]? = some (.cells x.2.2 x.2.1 (0, 0)) ∧ w.heap.size ≤ x.1) :
    Fr w w (W.alloc (.cells #[.slice A bs.length c, .bool false] 70)) W.heap.size (bs, false) L :=
  ⟨⟨A, c, heap_alloc_new W _, hB.size, hT⟩, below_alloc hB _, KeepBut.of_below (below_alloc hB _) _ _, fun x hx => by
    obtain ⟨h1, h2⟩ := hL x hx
    exact ⟨(Below.heap_alloc W _ _ (blk_lt h1)).trans h1, Nat.ne_of_lt (blk_lt h1), h2, h2⟩⟩
theorem Fr.below2 {w0 w W W1 : World} {g : Nat} {s : St} {L : List (Nat × Nat × Array Value)} (h : Fr w0 w W g s L) (hb : Below W.heap.size W W1) : Fr w0 w W1 g s L :=
  ⟨h.1.keep (g' := 0) hb, below_step h.2.1 hb, KeepBut.trans h.2.2.1 (KeepBut.of_below hb g none) (.inl rfl), fun x hx => by
    obtain ⟨h1, h2, h3, h4⟩ := h.2.2.2 x hx
    exact ⟨(hb.block _ (blk_lt h1)).trans h1, h2, h3, h4⟩⟩
theorem Fr.blks {w W : World} {g : Nat} {s : St} {L : List (Nat × Nat × Array Value)} (h : Fr w w W g s L) : ∀ x ∈ L, W.heap[x.1]? = some (.cells x.2.2 x.2.1 (0, 0)) ∧ w.heap.size ≤ x.1 :=
  fun x hx => ⟨(h.2.2.2 x hx).1, (h.2.2.2 x hx).2.2.1⟩

theorem infoA45 : (Try.prog.info? 45).map (fun i => (i.zero, i.size, i.bytes)) = some (some (.agg #[(.int .i64 0), (.int .i64 0), (.bool false), (.slice none 0 0)]), 4, 48) := by kernel_rfl
set_option maxHeartbeats 4000000 in
set_option maxRecDepth 100000 in
theorem get_late (A : Option Addr) (c : Nat) (b : List Int) (w : World) (hT : Byt w A c b) (e : Nat) (hn : b.length = e + 8) (he : 48 ≤ e) (hl : e ≤ 1099511627776) (hm : markOk b = true) :
    Calls Try.prog 15 #[.slice A (e + 8) c] w (GetPost w b) := by
  have h2 : decide ((e : Int) < 48) = false := by simp; omega
  have h4 : e + 8 ≤ c := by have := hT.2; omega
  have hcv : (convert 32 9 (.slice A 8 c)).run Try.prog (w.alloc (.cells #[.int .i64 0, .int .i64 0, .int .i64 0, .int .i64 0, .slice none 0 0] 27)) = .ok (.string (strOfNums (b.take 8))) (w.alloc (.cells #[.int .i64 0, .int .i64 0, .int .i64 0, .int .i64 0, .slice none 0 0] 27)) := by
    have h := Kd.C_below (Kd.C_take (m := 8) hT.1 (by omega)) (below_alloc (Below.refl w.heap.size w) (.cells #[.int .i64 0, .int .i64 0, .int .i64 0, .int .i64 0, .slice none 0 0] 27))
    have hl8 : (b.take 8).length = 8 := by simp; omega
    rw [hl8] at h
    exact Kd.C_string Try.underlying32 Try.underlying5 Try.underlying9 h
  have h5 : ((strOfNums (b.take 8)).toList == [112, 108, 97, 116, 101, 110, 65, 49]) = true := hm
  have HMK := Aside0.mk hm
  have HT := Aside0.mk hT
  have HN := Aside0.mk hn
  have HD := Aside0.mk (byt_drop (n := e) hT (by omega) (by omega))
  have HTk := Aside0.mk (byt_take (n := e) hT (by omega))
  have h6 : (b.drop e).length = 8 := by simp; omega
  have H6 := Aside0.mk h6
  clear hT hm hn h6
  go_enter Try.func15, Try.ntmps15
  go_wp2_with fail
  have F0 := Fr.fresh (W := w.alloc (.cells Z27 27)) HD.out (below_alloc (Below.refl _ _) _) (L := [(w.heap.size, 27, Z27)]) (by intro x hx; rw [List.mem_singleton.1 hx]; exact ⟨heap_alloc_new w _, Nat.le_refl _⟩)
  rw [H6.out] at F0
  have hsz : (w.alloc (.cells Z27 27)).heap.size = w.heap.size + 1 := by simp
  rw [hsz] at F0
  refine (num_s _ F0).mono ?_
  rintro e1 W1 ⟨rfl, h⟩
  have H1 := Aside0.mk h
  have hlt : (b.take e).length = e := by have := HN.out; simp; omega
  have hsum := fun W (hW : Below w.heap.size w W) => answer_sum.calls _ A c (b.take e) _ W (Kd.C_below HTk.out.1 hW) HTk.out.2 (sum_tells (b.take e) (by rw [hlt]; omega))
  rw [hlt] at hsum
  have HS := Aside0.mk hsum
  have hc0 := blk_cell (h.blk (List.mem_cons_self))
  have hf0 := blk_frozen (h.blk (List.mem_cons_self))
  have h16 : ((b.take e).drop 8).length = e - 8 := by have := HN.out; simp; omega
  have hb8 := Aside0.mk (byt_drop (n := 8) HTk.out (by omega) (by have := HN.out; simp; omega))
  have H16 := Aside0.mk h16
  have hsumOk : sumOk b = (nv (b.drop e, false) == wrap64 (fnvs (b.take e))) := by
    have : b.length - 8 = e := by have := HN.out; omega
    unfold sumOk nv; rw [this]
  have hg0 : g0 b = ((b.take e).drop 8, false) := by
    have : b.length - 8 = e := by have := HN.out; omega
    unfold g0; rw [this]
  have HSO := Aside0.mk hsumOk
  have HG0 := Aside0.mk hg0
  clear h F0 hsz hlt hsum h16 hsumOk hg0
  go_wp2_with fail
  refine (HS.out W1 H1.out.bel).mono ?_
  rintro e2 W2 ⟨rfl, hD⟩
  have H2 := Aside0.mk (H1.out.below2 hD.below)
  have hc2 := blk_cell (H2.out.blk (List.mem_cons_self))
  have hf2 := blk_frozen (H2.out.blk (List.mem_cons_self))
  clear hc0 hf0 hD HS H1
  by_cases hso : sumOk b = true
  · have h7 : (nv (b.drop e, false) == wrap64 (fnvs (b.take e))) = true := by rw [← HSO.out]; exact hso
    have h7' : (nv (b.drop e, false) != wrap64 (fnvs (b.take e))) = false := by simpa using h7
    have HSOK := Aside0.mk hso
    clear hso
    have hgt := Aside0.mk (H2.out.lt (List.mem_cons_self))
    go_wp2_with fail
    have F2 := Fr.fresh (W := W2) hb8.out H2.out.bel H2.out.blks
    rw [H16.out] at F2
    refine (num_s _ F2).mono ?_
    rintro e3 W3 ⟨rfl, h⟩
    have H3 := Aside0.mk h
    clear h hc2 hf2 F2
    go_wp2_with fail
    refine (num_s _ H3.out).mono ?_
    rintro e4 W4 ⟨rfl, h⟩
    have H4 := Aside0.mk h
    clear h
    go_wp2_with fail
    refine (num_s _ H4.out).mono ?_
    rintro e5 W5 ⟨rfl, h⟩
    have H5 := Aside0.mk h
    clear h H4
    go_wp2_with fail
    refine (num_s _ H5.out).mono ?_
    rintro e6 W6 ⟨rfl, h⟩
    have H6 := Aside0.mk h
    clear h H5
    rw [← HG0.out] at H6 H3
    simp only [← HG0.out]
    go_wp2_with fail
    refine (many_s 25 (by omega) _ (Fr.alloc H6.out _ _)).mono ?_
    rintro e7 W7 ⟨rfl, h⟩
    have H7 := Aside0.mk h
    clear h
    have hm := mny_range 25 (by omega) (g4 b)
    have hm2 := mny_len 25 (g4 b)
    have hm3 : (g4 b).1.length ≤ e := by
      have h1 : (g0 b).1.length ≤ e := by rw [HG0.out]; simp; omega
      exact Nat.le_trans (ns_len _) (Nat.le_trans (ns_len _) (Nat.le_trans (ns_len _) (Nat.le_trans (ns_len _) h1)))
    obtain ⟨n0, hn0⟩ := Int.eq_ofNat_of_zero_le hm.1
    have hn1 : n0 ≤ 43980465111 := by omega
    have HGM := Aside0.mk (show (gM b).1 = (n0 : Int) from hn0)
    have HLL := Aside0.mk (show (gM b).2.1.length ≤ 1099511627776 from Nat.le_trans hm2 (by omega))
    have hn0' : (mnyR 25 (g4 b).1 (g4 b).2).1 = (n0 : Int) := hn0
    have hn0'' : (mnyR 25 (ns (ns (ns (ns (g0 b))))).1 (ns (ns (ns (ns (g0 b))))).2).1 = (n0 : Int) := hn0
    rw [hn0'']
    have hlt2 := Aside0.mk (H6.out.lt (List.mem_singleton.2 rfl))
    have hgW := Aside0.mk H6.out.rd.lt
    have hKW := Aside0.mk H6.out.keep.1
    clear hm hm2 hm3 hn0 hn0' hn0'' H3 H6
    go_wp2_with fail
    go_loopg [8] n0 (fun kq v8 wr => ∃ (xs : List S45) (s' : St) (vB : Value), s'.1.length ≤ 1099511627776 ∧ kq ≤ n0 ∧ xs.length + kq = n0 ∧ v8 = .int .i64 (kq : Int) ∧
      Aside0 (Fr w w wr W2.heap.size s' [(W6.heap.size, 27, #[.int .i64 (nv (g0 b)), .int .i64 (nv (ns (g0 b))), .int .i64 (nv (ns (ns (g0 b)))), .int .i64 (nv (ns (ns (ns (g0 b))))), vB]), (w.heap.size, 27, Z27)]) ∧
      Aside0 (Kd.S k45A 45 wr W6.heap.size (fun k => W6.heap.size ≤ k) vB xs) ∧ Aside0 (xs ++ (pgsR kq s').1 = gP b ∧ (pgsR kq s').2 = gE b))
    case atStart => exact ⟨[], _, .slice none 0 0, HLL.out, Nat.le_refl _, by simp, rfl, H7, ⟨Kd.S_nil _ _ _ _ _⟩, ⟨by simp only [gP, HGM.out, List.nil_append, Int.toNat_natCast], by simp only [gE, HGM.out, Int.toNat_natCast]⟩⟩
    case round =>
      clear H7
      obtain ⟨xs, s', vB, hsl, hk, hx, rfl, HFr, HR, HE⟩ := hrel
      have hb3 := HFr.out.blk (List.mem_cons_self)
      have hc := blk_cell hb3
      have hf := blk_frozen hb3
      obtain ⟨A', c', hb, hg0, hT⟩ := HFr.out.rd
      have hcg := blk_cell hb
      clear hb3 hb hT
      cases gk with
      | zero =>
        obtain ⟨Av, cv, rfl⟩ := Kd.S_slice HR.out
        have EQ := Aside0.mk (show xs = gP b ∧ s' = gE b from by have h := HE.out; simpa [pgsR] using h)
        clear HE
        cases hs2 : s'.2 with
        | true =>
          rw [hs2] at hcg
          obtain ⟨p2, hp2⟩ : ∃ p, decide ((0 : Int) < (s'.1.length : Int)) = p := ⟨_, rfl⟩
          have hp2' : decide (0 < s'.1.length) = p2 := by rw [← hp2]; simp
          obtain ⟨p3, hp3⟩ : ∃ p, decide (nv (ns (ns (g0 b))) < 0) = p := ⟨_, rfl⟩
          obtain ⟨p4, hp4⟩ : ∃ p, decide (nv (ns (ns (ns (g0 b)))) < 0) = p := ⟨_, rfl⟩
          obtain ⟨p5, hp5⟩ : ∃ p, (nv (g0 b) != 0) = p := ⟨_, rfl⟩
          obtain ⟨p6, hp6⟩ : ∃ p, decide ((0 : Int) < (xs.length : Int)) = p := ⟨_, rfl⟩
          have hp6' : decide (0 < xs.length) = p6 := by rw [← hp6]; simp
          have HGO := Aside0.mk (show gOk b = !(true || p2 || p3 || p4 || p5 && p6) from by unfold gOk; rw [← EQ.out.2, ← EQ.out.1, hs2, hp2', hp3, hp4, hp5, hp6'])
          have HPP := Aside0.mk (And.intro hp2 (And.intro hp2' (And.intro hp3 (And.intro hp4 (And.intro hp5 (And.intro hp6 hp6'))))))
          clear hp2 hp2' hp3 hp4 hp5 hp6 hp6'
          go_upto_region 13 with (fail)
          go_cut [102] (fun v wc => v = .bool (!gOk b) ∧ wr = wc)
          case first =>
            obtain ⟨hp2, hp2', hp3, hp4, hp5, hp6, hp6'⟩ := HPP.out
            go_wp2_with fail
            go_meet
            case rel => exact ⟨by rw [HGO.out]; rfl, rfl⟩
          case rest =>
            obtain ⟨rfl, rfl⟩ := hcut
            have hb0 := HFr.out.blk (List.mem_cons_of_mem _ (List.mem_singleton.2 rfl))
            have hc0 := blk_cell hb0
            have hf0 := blk_frozen hb0
            clear hb0 hcg
            cases hgo : gOk b with
            | false =>
              have HG := Aside0.mk (getF_no (b := b) (by rintro ⟨_, _, _, h⟩; rw [hgo] at h; cases h))
              have H12 := Aside0.mk (Fr.set _ _ _ (Fr.set _ _ _ (Fr.set _ _ _ (Fr.set _ _ _ (Fr.set _ _ _ (HFr.out.sub (L' := [(w.heap.size, 27, Z27)]) (fun x hx => List.mem_cons_of_mem _ hx)) (fun x hx => absurd hx (by simp)) 0 (.int .i64 0)) (fun x hx => absurd hx (by simp)) 1 (.int .i64 0)) (fun x hx => absurd hx (by simp)) 2 (.int .i64 0)) (fun x hx => absurd hx (by simp)) 3 (.int .i64 0)) (fun x hx => absurd hx (by simp)) 4 (.slice none 0 0))
              clear hgo HGO EQ
              go_wp2
              obtain ⟨W12, hW⟩ : ∃ X, (((((wr.setCell ⟨w.heap.size, 0, none⟩ (.int .i64 0)).setCell ⟨w.heap.size, 1, none⟩ (.int .i64 0)).setCell ⟨w.heap.size, 2, none⟩ (.int .i64 0)).setCell ⟨w.heap.size, 3, none⟩ (.int .i64 0)).setCell ⟨w.heap.size, 4, none⟩ (.slice none 0 0)) = X := ⟨_, rfl⟩
              have h13 := H12.out
              rw [hW] at h13
              rw [hW]
              simp only [List.setIfInBounds_toArray, List.set_cons_zero, List.set_cons_succ] at h13
              clear hc hf hc0 hf0
              have hc := blk_cell (h13.blk (List.mem_cons_self))
              have HB := Aside0.mk h13.bel
              clear h13 hW H12 HFr HR
              refine bodyPost_ret (v := .tuple #[.agg #[.int .i64 0, .int .i64 0, .int .i64 0, .int .i64 0, .slice none 0 0], .int .i64 200]) (by simp [results, Try.results15, go_sem, hc]) rfl ⟨.slice none 0 0, by rw [HG.out], by rw [HG.out]; exact Kd.S_nil _ _ _ _ _, HB.out⟩
            | true =>
              have HG := Aside0.mk (getF_yes (b := b) ⟨by rw [HN.out]; omega, HMK.out, HSOK.out, hgo⟩)
              have H12 := Aside0.mk (Fr.set _ _ _ (Fr.set _ _ _ (Fr.set _ _ _ (Fr.set _ _ _ (Fr.set _ _ _ (HFr.out.sub (L' := [(w.heap.size, 27, Z27)]) (fun x hx => List.mem_cons_of_mem _ hx)) (fun x hx => absurd hx (by simp)) 0 (.int .i64 (nv (g0 b)))) (fun x hx => absurd hx (by simp)) 1 (.int .i64 (nv (ns (g0 b))))) (fun x hx => absurd hx (by simp)) 2 (.int .i64 (nv (ns (ns (g0 b)))))) (fun x hx => absurd hx (by simp)) 3 (.int .i64 (nv (ns (ns (ns (g0 b))))))) (fun x hx => absurd hx (by simp)) 4 (.slice Av xs.length cv))
              have R12 := Aside0.mk (Kd.S_far (p := ⟨w.heap.size, 4, none⟩) (Kd.S_far (p := ⟨w.heap.size, 3, none⟩) (Kd.S_far (p := ⟨w.heap.size, 2, none⟩) (Kd.S_far (p := ⟨w.heap.size, 1, none⟩) (Kd.S_far (p := ⟨w.heap.size, 0, none⟩) (Kd.S_mono HR.out (ok' := fun k => W6.heap.size ≤ k ∧ k ≠ w.heap.size) (fun k hk => ⟨hk, by have h1 := hKW.out; have h2 := hlt2.out; omega⟩)) (fun _ hk => hk.2) (.int .i64 (nv (g0 b)))) (fun _ hk => hk.2) (.int .i64 (nv (ns (g0 b))))) (fun _ hk => hk.2) (.int .i64 (nv (ns (ns (g0 b)))))) (fun _ hk => hk.2) (.int .i64 (nv (ns (ns (ns (g0 b))))))) (fun _ hk => hk.2) (.slice Av xs.length cv))
              clear hgo HGO
              go_wp2
              obtain ⟨W12, hW⟩ : ∃ X, (((((wr.setCell ⟨w.heap.size, 0, none⟩ (.int .i64 (nv (g0 b)))).setCell ⟨w.heap.size, 1, none⟩ (.int .i64 (nv (ns (g0 b))))).setCell ⟨w.heap.size, 2, none⟩ (.int .i64 (nv (ns (ns (g0 b)))))).setCell ⟨w.heap.size, 3, none⟩ (.int .i64 (nv (ns (ns (ns (g0 b))))))).setCell ⟨w.heap.size, 4, none⟩ (.slice Av xs.length cv)) = X := ⟨_, rfl⟩
              have h13 := H12.out
              have r13 := R12.out
              rw [hW] at h13 r13
              rw [hW]
              simp only [List.setIfInBounds_toArray, List.set_cons_zero, List.set_cons_succ] at h13
              clear hc hf hc0 hf0
              have hc := blk_cell (h13.blk (List.mem_cons_self))
              have HB := Aside0.mk h13.bel
              have HRR := Aside0.mk (Kd.S_lower (Kd.S_mono r13 (ok' := fun k => w.heap.size ≤ k) (fun k hk => Nat.le_trans hKW.out hk.1)) hKW.out)
              clear h13 r13 hW H12 R12 HFr HR
              refine bodyPost_ret (v := .tuple #[.agg #[.int .i64 (nv (g0 b)), .int .i64 (nv (ns (g0 b))), .int .i64 (nv (ns (ns (g0 b)))), .int .i64 (nv (ns (ns (ns (g0 b))))), .slice Av xs.length cv], .int .i64 0]) (by simp [results, Try.results15, go_sem, hc]) rfl ⟨_, by rw [HG.out], by rw [HG.out]; show Kd.S k45A 45 W12 w.heap.size _ _ (gP b); rw [← EQ.out.1]; exact HRR.out, HB.out⟩
        | false =>
          rw [hs2] at hcg
          obtain ⟨p2, hp2⟩ : ∃ p, decide ((0 : Int) < (s'.1.length : Int)) = p := ⟨_, rfl⟩
          have hp2' : decide (0 < s'.1.length) = p2 := by rw [← hp2]; simp
          obtain ⟨p3, hp3⟩ : ∃ p, decide (nv (ns (ns (g0 b))) < 0) = p := ⟨_, rfl⟩
          obtain ⟨p4, hp4⟩ : ∃ p, decide (nv (ns (ns (ns (g0 b)))) < 0) = p := ⟨_, rfl⟩
          obtain ⟨p5, hp5⟩ : ∃ p, (nv (g0 b) != 0) = p := ⟨_, rfl⟩
          obtain ⟨p6, hp6⟩ : ∃ p, decide ((0 : Int) < (xs.length : Int)) = p := ⟨_, rfl⟩
          have hp6' : decide (0 < xs.length) = p6 := by rw [← hp6]; simp
          have HGO := Aside0.mk (show gOk b = !(false || p2 || p3 || p4 || p5 && p6) from by unfold gOk; rw [← EQ.out.2, ← EQ.out.1, hs2, hp2', hp3, hp4, hp5, hp6'])
          have HPP := Aside0.mk (And.intro hp2 (And.intro hp2' (And.intro hp3 (And.intro hp4 (And.intro hp5 (And.intro hp6 hp6'))))))
          clear hp2 hp2' hp3 hp4 hp5 hp6 hp6'
          go_upto_region 13 with (fail)
          go_cut [102] (fun v wc => v = .bool (!gOk b) ∧ wr = wc)
          case first =>
            obtain ⟨hp2, hp2', hp3, hp4, hp5, hp6, hp6'⟩ := HPP.out
            cases p2 with
            | true =>
              go_wp2_with fail
              go_meet
              case rel => exact ⟨by rw [HGO.out]; rfl, rfl⟩
            | false =>
              cases p3 with
              | true =>
                go_wp2_with fail
                go_meet
                case rel => exact ⟨by rw [HGO.out]; rfl, rfl⟩
              | false =>
                cases p4 with
                | true =>
                  go_wp2_with fail
                  go_meet
                  case rel => exact ⟨by rw [HGO.out]; rfl, rfl⟩
                | false =>
                  cases p5 with
                  | true =>
                    cases p6 with
                    | true =>
                      go_wp2_with fail
                      go_meet
                      case rel => exact ⟨by rw [HGO.out]; rfl, rfl⟩
                    | false =>
                      go_wp2_with fail
                      go_meet
                      case rel => exact ⟨by rw [HGO.out]; rfl, rfl⟩
                  | false =>
                    go_wp2_with fail
                    go_meet
                    case rel => exact ⟨by rw [HGO.out]; rfl, rfl⟩
          case rest =>
            obtain ⟨rfl, rfl⟩ := hcut
            have hb0 := HFr.out.blk (List.mem_cons_of_mem _ (List.mem_singleton.2 rfl))
            have hc0 := blk_cell hb0
            have hf0 := blk_frozen hb0
            clear hb0 hcg
            cases hgo : gOk b with
            | false =>
              have HG := Aside0.mk (getF_no (b := b) (by rintro ⟨_, _, _, h⟩; rw [hgo] at h; cases h))
              have H12 := Aside0.mk (Fr.set _ _ _ (Fr.set _ _ _ (Fr.set _ _ _ (Fr.set _ _ _ (Fr.set _ _ _ (HFr.out.sub (L' := [(w.heap.size, 27, Z27)]) (fun x hx => List.mem_cons_of_mem _ hx)) (fun x hx => absurd hx (by simp)) 0 (.int .i64 0)) (fun x hx => absurd hx (by simp)) 1 (.int .i64 0)) (fun x hx => absurd hx (by simp)) 2 (.int .i64 0)) (fun x hx => absurd hx (by simp)) 3 (.int .i64 0)) (fun x hx => absurd hx (by simp)) 4 (.slice none 0 0))
              clear hgo HGO EQ
              go_wp2
              obtain ⟨W12, hW⟩ : ∃ X, (((((wr.setCell ⟨w.heap.size, 0, none⟩ (.int .i64 0)).setCell ⟨w.heap.size, 1, none⟩ (.int .i64 0)).setCell ⟨w.heap.size, 2, none⟩ (.int .i64 0)).setCell ⟨w.heap.size, 3, none⟩ (.int .i64 0)).setCell ⟨w.heap.size, 4, none⟩ (.slice none 0 0)) = X := ⟨_, rfl⟩
              have h13 := H12.out
              rw [hW] at h13
              rw [hW]
              simp only [List.setIfInBounds_toArray, List.set_cons_zero, List.set_cons_succ] at h13
              clear hc hf hc0 hf0
              have hc := blk_cell (h13.blk (List.mem_cons_self))
              have HB := Aside0.mk h13.bel
              clear h13 hW H12 HFr HR
              refine bodyPost_ret (v := .tuple #[.agg #[.int .i64 0, .int .i64 0, .int .i64 0, .int .i64 0, .slice none 0 0], .int .i64 200]) (by simp [results, Try.results15, go_sem, hc]) rfl ⟨.slice none 0 0, by rw [HG.out], by rw [HG.out]; exact Kd.S_nil _ _ _ _ _, HB.out⟩
            | true =>
              have HG := Aside0.mk (getF_yes (b := b) ⟨by rw [HN.out]; omega, HMK.out, HSOK.out, hgo⟩)
              have H12 := Aside0.mk (Fr.set _ _ _ (Fr.set _ _ _ (Fr.set _ _ _ (Fr.set _ _ _ (Fr.set _ _ _ (HFr.out.sub (L' := [(w.heap.size, 27, Z27)]) (fun x hx => List.mem_cons_of_mem _ hx)) (fun x hx => absurd hx (by simp)) 0 (.int .i64 (nv (g0 b)))) (fun x hx => absurd hx (by simp)) 1 (.int .i64 (nv (ns (g0 b))))) (fun x hx => absurd hx (by simp)) 2 (.int .i64 (nv (ns (ns (g0 b)))))) (fun x hx => absurd hx (by simp)) 3 (.int .i64 (nv (ns (ns (ns (g0 b))))))) (fun x hx => absurd hx (by simp)) 4 (.slice Av xs.length cv))
              have R12 := Aside0.mk (Kd.S_far (p := ⟨w.heap.size, 4, none⟩) (Kd.S_far (p := ⟨w.heap.size, 3, none⟩) (Kd.S_far (p := ⟨w.heap.size, 2, none⟩) (Kd.S_far (p := ⟨w.heap.size, 1, none⟩) (Kd.S_far (p := ⟨w.heap.size, 0, none⟩) (Kd.S_mono HR.out (ok' := fun k => W6.heap.size ≤ k ∧ k ≠ w.heap.size) (fun k hk => ⟨hk, by have h1 := hKW.out; have h2 := hlt2.out; omega⟩)) (fun _ hk => hk.2) (.int .i64 (nv (g0 b)))) (fun _ hk => hk.2) (.int .i64 (nv (ns (g0 b))))) (fun _ hk => hk.2) (.int .i64 (nv (ns (ns (g0 b)))))) (fun _ hk => hk.2) (.int .i64 (nv (ns (ns (ns (g0 b))))))) (fun _ hk => hk.2) (.slice Av xs.length cv))
              clear hgo HGO
              go_wp2
              obtain ⟨W12, hW⟩ : ∃ X, (((((wr.setCell ⟨w.heap.size, 0, none⟩ (.int .i64 (nv (g0 b)))).setCell ⟨w.heap.size, 1, none⟩ (.int .i64 (nv (ns (g0 b))))).setCell ⟨w.heap.size, 2, none⟩ (.int .i64 (nv (ns (ns (g0 b)))))).setCell ⟨w.heap.size, 3, none⟩ (.int .i64 (nv (ns (ns (ns (g0 b))))))).setCell ⟨w.heap.size, 4, none⟩ (.slice Av xs.length cv)) = X := ⟨_, rfl⟩
              have h13 := H12.out
              have r13 := R12.out
              rw [hW] at h13 r13
              rw [hW]
              simp only [List.setIfInBounds_toArray, List.set_cons_zero, List.set_cons_succ] at h13
              clear hc hf hc0 hf0
              have hc := blk_cell (h13.blk (List.mem_cons_self))
              have HB := Aside0.mk h13.bel
              have HRR := Aside0.mk (Kd.S_lower (Kd.S_mono r13 (ok' := fun k => w.heap.size ≤ k) (fun k hk => Nat.le_trans hKW.out hk.1)) hKW.out)
              clear h13 r13 hW H12 R12 HFr HR
              refine bodyPost_ret (v := .tuple #[.agg #[.int .i64 (nv (g0 b)), .int .i64 (nv (ns (g0 b))), .int .i64 (nv (ns (ns (g0 b)))), .int .i64 (nv (ns (ns (ns (g0 b))))), .slice Av xs.length cv], .int .i64 0]) (by simp [results, Try.results15, go_sem, hc]) rfl ⟨_, by rw [HG.out], by rw [HG.out]; show Kd.S k45A 45 W12 w.heap.size _ _ (gP b); rw [← EQ.out.1]; exact HRR.out, HB.out⟩
      | succ k =>
        obtain ⟨Av, cv, rfl⟩ := Kd.S_slice HR.out
        cases hs2 : s'.2 with
        | true =>
          rw [hs2] at hcg
          have EQ := Aside0.mk (show xs = gP b ∧ s' = gE b from by have h := HE.out; simpa [pgsR, hs2] using h)
          clear HE
          obtain ⟨p2, hp2⟩ : ∃ p, decide ((0 : Int) < (s'.1.length : Int)) = p := ⟨_, rfl⟩
          have hp2' : decide (0 < s'.1.length) = p2 := by rw [← hp2]; simp
          obtain ⟨p3, hp3⟩ : ∃ p, decide (nv (ns (ns (g0 b))) < 0) = p := ⟨_, rfl⟩
          obtain ⟨p4, hp4⟩ : ∃ p, decide (nv (ns (ns (ns (g0 b)))) < 0) = p := ⟨_, rfl⟩
          obtain ⟨p5, hp5⟩ : ∃ p, (nv (g0 b) != 0) = p := ⟨_, rfl⟩
          obtain ⟨p6, hp6⟩ : ∃ p, decide ((0 : Int) < (xs.length : Int)) = p := ⟨_, rfl⟩
          have hp6' : decide (0 < xs.length) = p6 := by rw [← hp6]; simp
          have HGO := Aside0.mk (show gOk b = !(true || p2 || p3 || p4 || p5 && p6) from by unfold gOk; rw [← EQ.out.2, ← EQ.out.1, hs2, hp2', hp3, hp4, hp5, hp6'])
          have HPP := Aside0.mk (And.intro hp2 (And.intro hp2' (And.intro hp3 (And.intro hp4 (And.intro hp5 (And.intro hp6 hp6'))))))
          clear hp2 hp2' hp3 hp4 hp5 hp6 hp6'
          go_upto_region 13 with (fail)
          go_cut [102] (fun v wc => v = .bool (!gOk b) ∧ wr = wc)
          case first =>
            obtain ⟨hp2, hp2', hp3, hp4, hp5, hp6, hp6'⟩ := HPP.out
            go_wp2_with fail
            go_meet
            case rel => exact ⟨by rw [HGO.out]; rfl, rfl⟩
          case rest =>
            obtain ⟨rfl, rfl⟩ := hcut
            have hb0 := HFr.out.blk (List.mem_cons_of_mem _ (List.mem_singleton.2 rfl))
            have hc0 := blk_cell hb0
            have hf0 := blk_frozen hb0
            clear hb0 hcg
            cases hgo : gOk b with
            | false =>
              have HG := Aside0.mk (getF_no (b := b) (by rintro ⟨_, _, _, h⟩; rw [hgo] at h; cases h))
              have H12 := Aside0.mk (Fr.set _ _ _ (Fr.set _ _ _ (Fr.set _ _ _ (Fr.set _ _ _ (Fr.set _ _ _ (HFr.out.sub (L' := [(w.heap.size, 27, Z27)]) (fun x hx => List.mem_cons_of_mem _ hx)) (fun x hx => absurd hx (by simp)) 0 (.int .i64 0)) (fun x hx => absurd hx (by simp)) 1 (.int .i64 0)) (fun x hx => absurd hx (by simp)) 2 (.int .i64 0)) (fun x hx => absurd hx (by simp)) 3 (.int .i64 0)) (fun x hx => absurd hx (by simp)) 4 (.slice none 0 0))
              clear hgo HGO EQ
              go_wp2
              obtain ⟨W12, hW⟩ : ∃ X, (((((wr.setCell ⟨w.heap.size, 0, none⟩ (.int .i64 0)).setCell ⟨w.heap.size, 1, none⟩ (.int .i64 0)).setCell ⟨w.heap.size, 2, none⟩ (.int .i64 0)).setCell ⟨w.heap.size, 3, none⟩ (.int .i64 0)).setCell ⟨w.heap.size, 4, none⟩ (.slice none 0 0)) = X := ⟨_, rfl⟩
              have h13 := H12.out
              rw [hW] at h13
              rw [hW]
              simp only [List.setIfInBounds_toArray, List.set_cons_zero, List.set_cons_succ] at h13
              clear hc hf hc0 hf0
              have hc := blk_cell (h13.blk (List.mem_cons_self))
              have HB := Aside0.mk h13.bel
              clear h13 hW H12 HFr HR
              refine bodyPost_ret (v := .tuple #[.agg #[.int .i64 0, .int .i64 0, .int .i64 0, .int .i64 0, .slice none 0 0], .int .i64 200]) (by simp [results, Try.results15, go_sem, hc]) rfl ⟨.slice none 0 0, by rw [HG.out], by rw [HG.out]; exact Kd.S_nil _ _ _ _ _, HB.out⟩
            | true =>
              have HG := Aside0.mk (getF_yes (b := b) ⟨by rw [HN.out]; omega, HMK.out, HSOK.out, hgo⟩)
              have H12 := Aside0.mk (Fr.set _ _ _ (Fr.set _ _ _ (Fr.set _ _ _ (Fr.set _ _ _ (Fr.set _ _ _ (HFr.out.sub (L' := [(w.heap.size, 27, Z27)]) (fun x hx => List.mem_cons_of_mem _ hx)) (fun x hx => absurd hx (by simp)) 0 (.int .i64 (nv (g0 b)))) (fun x hx => absurd hx (by simp)) 1 (.int .i64 (nv (ns (g0 b))))) (fun x hx => absurd hx (by simp)) 2 (.int .i64 (nv (ns (ns (g0 b)))))) (fun x hx => absurd hx (by simp)) 3 (.int .i64 (nv (ns (ns (ns (g0 b))))))) (fun x hx => absurd hx (by simp)) 4 (.slice Av xs.length cv))
              have R12 := Aside0.mk (Kd.S_far (p := ⟨w.heap.size, 4, none⟩) (Kd.S_far (p := ⟨w.heap.size, 3, none⟩) (Kd.S_far (p := ⟨w.heap.size, 2, none⟩) (Kd.S_far (p := ⟨w.heap.size, 1, none⟩) (Kd.S_far (p := ⟨w.heap.size, 0, none⟩) (Kd.S_mono HR.out (ok' := fun k => W6.heap.size ≤ k ∧ k ≠ w.heap.size) (fun k hk => ⟨hk, by have h1 := hKW.out; have h2 := hlt2.out; omega⟩)) (fun _ hk => hk.2) (.int .i64 (nv (g0 b)))) (fun _ hk => hk.2) (.int .i64 (nv (ns (g0 b))))) (fun _ hk => hk.2) (.int .i64 (nv (ns (ns (g0 b)))))) (fun _ hk => hk.2) (.int .i64 (nv (ns (ns (ns (g0 b))))))) (fun _ hk => hk.2) (.slice Av xs.length cv))
              clear hgo HGO
              go_wp2
              obtain ⟨W12, hW⟩ : ∃ X, (((((wr.setCell ⟨w.heap.size, 0, none⟩ (.int .i64 (nv (g0 b)))).setCell ⟨w.heap.size, 1, none⟩ (.int .i64 (nv (ns (g0 b))))).setCell ⟨w.heap.size, 2, none⟩ (.int .i64 (nv (ns (ns (g0 b)))))).setCell ⟨w.heap.size, 3, none⟩ (.int .i64 (nv (ns (ns (ns (g0 b))))))).setCell ⟨w.heap.size, 4, none⟩ (.slice Av xs.length cv)) = X := ⟨_, rfl⟩
              have h13 := H12.out
              have r13 := R12.out
              rw [hW] at h13 r13
              rw [hW]
              simp only [List.setIfInBounds_toArray, List.set_cons_zero, List.set_cons_succ] at h13
              clear hc hf hc0 hf0
              have hc := blk_cell (h13.blk (List.mem_cons_self))
              have HB := Aside0.mk h13.bel
              have HRR := Aside0.mk (Kd.S_lower (Kd.S_mono r13 (ok' := fun k => w.heap.size ≤ k) (fun k hk => Nat.le_trans hKW.out hk.1)) hKW.out)
              clear h13 r13 hW H12 R12 HFr HR
              refine bodyPost_ret (v := .tuple #[.agg #[.int .i64 (nv (g0 b)), .int .i64 (nv (ns (g0 b))), .int .i64 (nv (ns (ns (g0 b)))), .int .i64 (nv (ns (ns (ns (g0 b))))), .slice Av xs.length cv], .int .i64 0]) (by simp [results, Try.results15, go_sem, hc]) rfl ⟨_, by rw [HG.out], by rw [HG.out]; show Kd.S k45A 45 W12 w.heap.size _ _ (gP b); rw [← EQ.out.1]; exact HRR.out, HB.out⟩
        | false =>
          rw [hs2] at hcg
          have EQ := Aside0.mk (show xs ++ (pgV s' :: (pgsR k (pgE s')).1) = gP b ∧ (pgsR k (pgE s')).2 = gE b from by have h := HE.out; simpa [pgsR, hs2] using h)
          clear HE hs2
          have HFd := Aside0.mk HFr.out.drew
          have HRd := Aside0.mk (Kd.S_drew HR.out)
          have hcd : ∀ (i : Nat), wr.drew.cell? ⟨W6.heap.size, i, none⟩ = #[.int .i64 (nv (g0 b)), .int .i64 (nv (ns (g0 b))), .int .i64 (nv (ns (ns (g0 b)))), .int .i64 (nv (ns (ns (ns (g0 b))))), .slice Av xs.length cv][i]? := hc
          go_wp2_with fail
          clear hcg hf hc
          have hWwr := Aside0.mk (Nat.le_of_lt (HFr.out.lt (List.mem_cons_self)))
          have hvb := Aside0.mk (fun k (hk : (Value.slice Av xs.length cv).ownBlock = some k) => ((Kd.R_bound (Kd.S_R HR.out)).1 k hk).2.2.1)
          have HRe := Aside0.mk (Kd.S_mono HRd.out (ok' := fun k => W6.heap.size ≤ k ∧ k ≠ W2.heap.size) (fun k hk => ⟨hk, by have := hgW.out; omega⟩))
          go_region_law (first
            | (refine goes_ (N := some 65) Try.func32 (by kernel_rfl) rfl #[.pointer (some ⟨W2.heap.size, 0, none⟩)] (by rfl) rfl rfl (by simp only [List.map_toArray, List.map_cons, List.map_nil]; rfl) ?_; refine (page_s s' HFd.out hsl).mono ?_; rintro e w5 ⟨v5, rfl, r5, h5, k5⟩; refine ⟨_, rfl, ?_⟩; obtain ⟨A5, c5, hv5⟩ := Kd.S_slice r5; subst hv5; have H5 := Aside0.mk h5; have R5 := Aside0.mk (Kd.S_oldK HRe.out k5); have RR5 := Aside0.mk r5; have hsz5 := Aside0.mk k5.1; have hc5 := blk_cell (h5.blk (List.mem_cons_self)); have hc5a := fun (o : Obj) (i : Nat) => (World.cell?_alloc_lt w5 o ⟨W6.heap.size, i, none⟩ (H5.out.lt (List.mem_cons_self))).trans (hc5 i); have hW5 := Aside0.mk (Nat.le_of_lt (h5.lt (List.mem_cons_self))); clear h5 k5 r5)
            | (refine Kd.S_append_step k45A (w0 := w5) W6.heap.size rfl (.tmp 63) (.tmp 66) 25 45 (.agg #[(.int .i64 0), (.int .i64 0), (.bool false), (.slice none 0 0)]) 48 rfl Try.underlying25 infoA45 rfl (by decide) (by decide) (.slice Av xs.length cv) xs (pgV s') [.int .i64 (pgV s').f0, .int .i64 (pgV s').f1, .bool (pgV s').f2, .slice A5 (pgV s').f3.length c5] (fun k => W6.heap.size ≤ k) (fun k => wr.heap.size ≤ k) rfl rfl (k45A_mkM _ _ _ _ (Kd.S_lower RR5.out hWwr.out)) (fun k hk => ⟨Nat.le_trans hWwr.out hk, fun e => by have := hvb.out k e.symm; omega⟩) (fun k hk => Nat.le_trans hW5.out hk) (Kd.S_mono R5.out (fun k hk => ⟨hk.1, fun h2 => Nat.lt_irrefl _ (Nat.lt_of_lt_of_le hk.2 h2)⟩)) (Below.refl _ _) hW5.out (by omega) ?_; intro v1 w6 HR6 HB6 HG6 HD6; obtain ⟨A6, c6, hv6⟩ := Kd.S_slice HR6; subst hv6; have H6 := Aside0.mk (Fr.grown H5.out (Kd.S_R R5.out) hKW.out HG6 (H5.out.bel.trans (HB6.mono hKW.out)) (by decide) (by intro x hx; simp only [List.mem_cons, List.not_mem_nil, or_false] at hx; rcases hx with rfl | rfl <;> exact (by decide : (45 : Nat) ≠ 27))); have R6 := Aside0.mk HR6; have hc6 := blk_cell (H6.out.blk (List.mem_cons_self)); have hf6 := blk_frozen (H6.out.blk (List.mem_cons_self)); clear HR6 HB6 HG6 HD6))
          all_goals
            have HL2 := Aside0.mk (Nat.le_trans (pgE_len s') hsl)
            have H7 := Aside0.mk (Fr.set _ _ _ H6.out (by intro x hx; rw [List.mem_singleton.1 hx]; have := hlt2.out; simp only; omega) 4 (.slice A6 (xs ++ [pgV s']).length c6))
            have R7 := Aside0.mk (Kd.S_set R6.out (H6.out.blk (List.mem_cons_self)) (by decide) 4 (.slice A6 (xs ++ [pgV s']).length c6))
            simp only [List.length_append, List.length_cons, List.length_nil, Nat.zero_add] at H7 R7
            go_wp2_with fail
            go_roundg k
            case measure => omega
            case rel => exact ⟨xs ++ [pgV s'], pgE s', _, HL2.out, by omega, by simp; omega, by go_num, H7, ⟨by simpa using R7.out⟩, ⟨by rw [List.append_assoc]; exact EQ.out.1, EQ.out.2⟩⟩
  · have hso' : sumOk b = false := by simpa using hso
    have h7 : (nv (b.drop e, false) == wrap64 (fnvs (b.take e))) = false := by rw [← HSO.out]; exact hso'
    have h7' : (nv (b.drop e, false) != wrap64 (fnvs (b.take e))) = true := by simpa using h7
    have HG := Aside0.mk (getF_no (b := b) (by rintro ⟨_, _, h3, _⟩; rw [hso'] at h3; cases h3))
    have H5 := Aside0.mk (Fr.set _ _ _ (Fr.set _ _ _ (Fr.set _ _ _ (Fr.set _ _ _ (Fr.set _ _ _ H2.out (fun x hx => absurd hx (by simp)) 0 (.int .i64 0)) (fun x hx => absurd hx (by simp)) 1 (.int .i64 0)) (fun x hx => absurd hx (by simp)) 2 (.int .i64 0)) (fun x hx => absurd hx (by simp)) 3 (.int .i64 0)) (fun x hx => absurd hx (by simp)) 4 (.slice none 0 0))
    clear hso hso'
    go_wp2
    obtain ⟨W12, hW⟩ : ∃ X, (((((W2.setCell ⟨w.heap.size, 0, none⟩ (.int .i64 0)).setCell ⟨w.heap.size, 1, none⟩ (.int .i64 0)).setCell ⟨w.heap.size, 2, none⟩ (.int .i64 0)).setCell ⟨w.heap.size, 3, none⟩ (.int .i64 0)).setCell ⟨w.heap.size, 4, none⟩ (.slice none 0 0)) = X := ⟨_, rfl⟩
    have h13 := H5.out
    rw [hW] at h13
    rw [hW]
    simp only [List.setIfInBounds_toArray, List.set_cons_zero, List.set_cons_succ] at h13
    have hc := blk_cell (h13.blk (List.mem_cons_self))
    have HB := Aside0.mk h13.bel
    clear h13 hc2 hf2 hW H5 H2
    refine bodyPost_ret (v := .tuple #[.agg #[.int .i64 0, .int .i64 0, .int .i64 0, .int .i64 0, .slice none 0 0], .int .i64 200]) (by simp [results, Try.results15, go_sem, hc]) rfl ⟨.slice none 0 0, by rw [HG.out], by rw [HG.out]; exact Kd.S_nil _ _ _ _ _, HB.out⟩
end Go.Proofs.Ytihiapjfdgoomaa.A
