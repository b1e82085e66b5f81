/- The contract of answer.Get. The whole contracts of answer.Put and answer.Get. The plain law of chapter 20: what is laid down is read as it was; what is read well is what would be laid down. The plain law of chapter 20: boxes, rows, pages, answers there and back. The plain law of chapter 20: pages and whole answers there and back. -/
import Derived.Test.YtihiapjfdgoomaaR1
import Derived.IntWalk
import Derived.Outline
namespace Go.Proofs.Ytihiapjfdgoomaa.A
open Go.RowKit Go.Proofs.YtihiapjfdgoomaaW.PrintWords Go.Proofs.YtihiapjfdgoomaaW.PrintLast Go.Proofs.YtihiapjfdgoomaaW.PrintMore
open Go.Proofs.Ytihiapjfdgoomaa.P
set_option linter.unusedVariables false
set_option linter.unusedSimpArgs false
def GetPost (w : World) (b : List Int) (e : Ending) (w' : World) : Prop :=
  ∃ v, e = .returned (.tuple #[.agg #[.int .i64 (getF b).1, .int .i64 (getF b).2.1, .int .i64 (getF b).2.2.1, .int .i64 (getF b).2.2.2.1, v], .int .i64 (getF b).2.2.2.2.2]) ∧
    Kd.S k45A 45 w' w.heap.size (fun k => w.heap.size ≤ k) v (getF b).2.2.2.2.1 ∧ Below w.heap.size w w'
theorem getF_no {b : List Int} (h : ¬ (56 ≤ b.length ∧ markOk b = true ∧ sumOk b = true ∧ gOk b = true)) : getF b = (0, 0, 0, 0, [], 200) := if_neg h
theorem getF_yes {b : List Int} (h : 56 ≤ b.length ∧ markOk b = true ∧ sumOk b = true ∧ gOk b = true) : getF b = (nv (g0 b), nv (ns (g0 b)), nv (ns (ns (g0 b))), nv (ns (ns (ns (g0 b)))), gP b, 0) := if_pos h
theorem get_early (A : Option Addr) (c : Nat) (b : List Int) (w : World) (hT : Byt w A c b) (hl : b.length ≤ 1099511627776) (h : b.length < 56 ∨ markOk b = false) :
    Calls Try.prog 15 #[.slice A b.length c] w (GetPost w b) := by
  have HG := Aside0.mk (getF_no (b := b) (by rintro ⟨h1, h2, _⟩; rcases h with h | h; omega; rw [h] at h2; cases h2))
  have HT := Aside0.mk hT
  by_cases h1 : b.length < 56
  · have h2 : decide ((b.length : Int) - 8 < 48) = true := by simp; omega
    clear h hT h1
    go_enter Try.func15, Try.ntmps15
    go_wp2
    refine bodyPost_ret (v := .tuple #[.agg #[.int .i64 0, .int .i64 0, .int .i64 0, .int .i64 0, .slice none 0 0], .int .i64 200]) (by simp [results, Try.results15, go_sem]) rfl ⟨.slice none 0 0, by rw [HG.out], by rw [HG.out]; exact Kd.S_nil _ _ _ _ _, ?_⟩
    repeat (first | exact Below.refl _ _ | apply below_alloc)
  · have hm : markOk b = false := h.resolve_left h1
    have h2 : decide ((b.length : Int) - 8 < 48) = false := by simp; omega
    have h3 : 8 ≤ b.length := by omega
    have h4 : 8 ≤ c := by have := hT.2; omega
    have hcv : (convert 32 9 (.slice A 8 c)).run Try.prog (w.alloc (.cells #[.int .i64 0, .int .i64 0, .int .i64 0, .int .i64 0, .slice none 0 0] 27)) = .ok (.string (strOfNums (b.take 8))) (w.alloc (.cells #[.int .i64 0, .int .i64 0, .int .i64 0, .int .i64 0, .slice none 0 0] 27)) := by
      have h := Kd.C_below (Kd.C_take hT.1 h3) (below_alloc (Below.refl w.heap.size w) (.cells #[.int .i64 0, .int .i64 0, .int .i64 0, .int .i64 0, .slice none 0 0] 27))
      have hl8 : (b.take 8).length = 8 := by simp; omega
      rw [hl8] at h
      exact Kd.C_string Try.underlying32 Try.underlying5 Try.underlying9 h
    have h5 : ((strOfNums (b.take 8)).toList == [112, 108, 97, 116, 101, 110, 65, 49]) = false := hm
    clear h hT h1 hm
    go_enter Try.func15, Try.ntmps15
    go_wp2
    refine bodyPost_ret (v := .tuple #[.agg #[.int .i64 0, .int .i64 0, .int .i64 0, .int .i64 0, .slice none 0 0], .int .i64 200]) (by simp [results, Try.results15, go_sem]) rfl ⟨.slice none 0 0, by rw [HG.out], by rw [HG.out]; exact Kd.S_nil _ _ _ _ _, ?_⟩
    repeat (first | exact Below.refl _ _ | apply below_alloc)
theorem byt_drop {w : World} {A : Option Addr} {c n : Nat} {b : List Int} (h : Byt w A c b) (hn : n < c) (hb : n ≤ b.length) : Byt w (A.map (fun x => x.add n)) (c - n) (b.drop n) := by
  have h1 := Kd.C_drop (m := n) h.1 hb h.2
  rw [if_neg (by omega)] at h1
  exact ⟨by simpa [Kd.int, Kd.scalar] using h1, by have := h.2; simp; omega⟩
theorem byt_take {w : World} {A : Option Addr} {c n : Nat} {b : List Int} (h : Byt w A c b) (hb : n ≤ b.length) : Byt w A c (b.take n) := ⟨Kd.C_take h.1 hb, by have := h.2; simp; omega⟩
abbrev Z27 : Array Value := #[.int .i64 0, .int .i64 0, .int .i64 0, .int .i64 0, .slice none 0 0]
theorem Fr.fresh {w W : World} {A : Option Addr} {c : Nat} {bs : List Int} (hT : Byt w A c bs) (hB : Below w.heap.size w W) {L : List (Nat × Nat × Array Value)}
    (hL : ∀ x ∈ L, W.heap[x.1]? = some (.cells x.2.2 x.2.1 (0, 0)) ∧ w.heap.size ≤ x.1) :
    Fr w w (W.alloc (.cells #[.slice A bs.length c, .bool false] 70)) W.heap.size (bs, false) L :=
  ⟨⟨A, c, heap_alloc_new W _, hB.size, hT⟩, below_alloc hB _, KeepBut.of_below (below_alloc hB _) _ _, fun x hx => by
    obtain ⟨h1, h2⟩ := hL x hx
    exact ⟨(Below.heap_alloc W _ _ (blk_lt h1)).trans h1, Nat.ne_of_lt (blk_lt h1), h2, h2⟩⟩
theorem Fr.below2 {w0 w W W1 : World} {g : Nat} {s : St} {L : List (Nat × Nat × Array Value)} (h : Fr w0 w W g s L) (hb : Below W.heap.size W W1) : Fr w0 w W1 g s L :=
  ⟨h.1.keep (g' := 0) hb, below_step h.2.1 hb, KeepBut.trans h.2.2.1 (KeepBut.of_below hb g none) (.inl rfl), fun x hx => by
    obtain ⟨h1, h2, h3, h4⟩ := h.2.2.2 x hx
    exact ⟨(hb.block _ (blk_lt h1)).trans h1, h2, h3, h4⟩⟩
theorem Fr.blks {w W : World} {g : Nat} {s : St} {L : List (Nat × Nat × Array Value)} (h : Fr w w W g s L) : ∀ x ∈ L, W.heap[x.1]? = some (.cells x.2.2 x.2.1 (0, 0)) ∧ w.heap.size ≤ x.1 :=
  fun x hx => ⟨(h.2.2.2 x hx).1, (h.2.2.2 x hx).2.2.1⟩
theorem infoA45 : (Try.prog.info? 45).map (fun i => (i.zero, i.size, i.bytes)) = some (some (.agg #[(.int .i64 0), (.int .i64 0), (.bool false), (.slice none 0 0)]), 4, 48) := by kernel_rfl
set_option maxHeartbeats 4000000 in
set_option maxRecDepth 100000 in
theorem get_late (A : Option Addr) (c : Nat) (b : List Int) (w : World) (hT : Byt w A c b) (e : Nat) (hn : b.length = e + 8) (he : 48 ≤ e) (hl : e ≤ 1099511627776) (hm : markOk b = true) :
    Calls Try.prog 15 #[.slice A (e + 8) c] w (GetPost w b) := by
  have h2 : decide ((e : Int) < 48) = false := by simp; omega
  have h4 : e + 8 ≤ c := by have := hT.2; omega
  have hcv : (convert 32 9 (.slice A 8 c)).run Try.prog (w.alloc (.cells #[.int .i64 0, .int .i64 0, .int .i64 0, .int .i64 0, .slice none 0 0] 27)) = .ok (.string (strOfNums (b.take 8))) (w.alloc (.cells #[.int .i64 0, .int .i64 0, .int .i64 0, .int .i64 0, .slice none 0 0] 27)) := by
    have h := Kd.C_below (Kd.C_take (m := 8) hT.1 (by omega)) (below_alloc (Below.refl w.heap.size w) (.cells #[.int .i64 0, .int .i64 0, .int .i64 0, .int .i64 0, .slice none 0 0] 27))
    have hl8 : (b.take 8).length = 8 := by simp; omega
    rw [hl8] at h
    exact Kd.C_string Try.underlying32 Try.underlying5 Try.underlying9 h
  have h5 : ((strOfNums (b.take 8)).toList == [112, 108, 97, 116, 101, 110, 65, 49]) = true := hm
  have HMK := Aside0.mk hm
  have HT := Aside0.mk hT
  have HN := Aside0.mk hn
  have HD := Aside0.mk (byt_drop (n := e) hT (by omega) (by omega))
  have HTk := Aside0.mk (byt_take (n := e) hT (by omega))
  have h6 : (b.drop e).length = 8 := by simp; omega
  have H6 := Aside0.mk h6
  clear hT hm hn h6
  go_enter Try.func15, Try.ntmps15
  go_wp2_with fail
  have F0 := Fr.fresh (W := w.alloc (.cells Z27 27)) HD.out (below_alloc (Below.refl _ _) _) (L := [(w.heap.size, 27, Z27)]) (by intro x hx; rw [List.mem_singleton.1 hx]; exact ⟨heap_alloc_new w _, Nat.le_refl _⟩)
  rw [H6.out] at F0
  have hsz : (w.alloc (.cells Z27 27)).heap.size = w.heap.size + 1 := by simp
  rw [hsz] at F0
  refine (num_s _ F0).mono ?_
  rintro e1 W1 ⟨rfl, h⟩
  have H1 := Aside0.mk h
  have hlt : (b.take e).length = e := by have := HN.out; simp; omega
  have hsum := fun W (hW : Below w.heap.size w W) => answer_sum.calls _ A c (b.take e) _ W (Kd.C_below HTk.out.1 hW) HTk.out.2 (sum_tells (b.take e) (by rw [hlt]; omega))
  rw [hlt] at hsum
  have HS := Aside0.mk hsum
  have hc0 := blk_cell (h.blk (List.mem_cons_self))
  have hf0 := blk_frozen (h.blk (List.mem_cons_self))
  have h16 : ((b.take e).drop 8).length = e - 8 := by have := HN.out; simp; omega
  have hb8 := Aside0.mk (byt_drop (n := 8) HTk.out (by omega) (by have := HN.out; simp; omega))
  have H16 := Aside0.mk h16
  have hsumOk : sumOk b = (nv (b.drop e, false) == wrap64 (fnvs (b.take e))) := by
    have : b.length - 8 = e := by have := HN.out; omega
    unfold sumOk nv; rw [this]
  have hg0 : g0 b = ((b.take e).drop 8, false) := by
    have : b.length - 8 = e := by have := HN.out; omega
    unfold g0; rw [this]
  have HSO := Aside0.mk hsumOk
  have HG0 := Aside0.mk hg0
  clear h F0 hsz hlt hsum h16 hsumOk hg0
  go_wp2_with fail
  refine (HS.out W1 H1.out.bel).mono ?_
  rintro e2 W2 ⟨rfl, hD⟩
  have H2 := Aside0.mk (H1.out.below2 hD.below)
  have hc2 := blk_cell (H2.out.blk (List.mem_cons_self))
  have hf2 := blk_frozen (H2.out.blk (List.mem_cons_self))
  clear hc0 hf0 hD HS H1
  by_cases hso : sumOk b = true
  · have h7 : (nv (b.drop e, false) == wrap64 (fnvs (b.take e))) = true := by rw [← HSO.out]; exact hso
    have h7' : (nv (b.drop e, false) != wrap64 (fnvs (b.take e))) = false := by simpa using h7
    have HSOK := Aside0.mk hso
    clear hso
    have hgt := Aside0.mk (H2.out.lt (List.mem_cons_self))
    go_wp2_with fail
    have F2 := Fr.fresh (W := W2) hb8.out H2.out.bel H2.out.blks
    rw [H16.out] at F2
    refine (num_s _ F2).mono ?_
    rintro e3 W3 ⟨rfl, h⟩
    have H3 := Aside0.mk h
    clear h hc2 hf2 F2
    go_wp2_with fail
    refine (num_s _ H3.out).mono ?_
    rintro e4 W4 ⟨rfl, h⟩
    have H4 := Aside0.mk h
    clear h
    go_wp2_with fail
    refine (num_s _ H4.out).mono ?_
    rintro e5 W5 ⟨rfl, h⟩
    have H5 := Aside0.mk h
    clear h H4
    go_wp2_with fail
    refine (num_s _ H5.out).mono ?_
    rintro e6 W6 ⟨rfl, h⟩
    have H6 := Aside0.mk h
    clear h H5
    rw [← HG0.out] at H6 H3
    simp only [← HG0.out]
    go_wp2_with fail
    refine (many_s 25 (by omega) _ (Fr.alloc H6.out _ _)).mono ?_
    rintro e7 W7 ⟨rfl, h⟩
    have H7 := Aside0.mk h
    clear h
    have hm := mny_range 25 (by omega) (g4 b)
    have hm2 := mny_len 25 (g4 b)
    have hm3 : (g4 b).1.length ≤ e := by
      have h1 : (g0 b).1.length ≤ e := by rw [HG0.out]; simp; omega
      exact Nat.le_trans (ns_len _) (Nat.le_trans (ns_len _) (Nat.le_trans (ns_len _) (Nat.le_trans (ns_len _) h1)))
    obtain ⟨n0, hn0⟩ := Int.eq_ofNat_of_zero_le hm.1
    have hn1 : n0 ≤ 43980465111 := by omega
    have HGM := Aside0.mk (show (gM b).1 = (n0 : Int) from hn0)
    have HLL := Aside0.mk (show (gM b).2.1.length ≤ 1099511627776 from Nat.le_trans hm2 (by omega))
    have hn0' : (mnyR 25 (g4 b).1 (g4 b).2).1 = (n0 : Int) := hn0
    have hn0'' : (mnyR 25 (ns (ns (ns (ns (g0 b))))).1 (ns (ns (ns (ns (g0 b))))).2).1 = (n0 : Int) := hn0
    rw [hn0'']
    have hlt2 := Aside0.mk (H6.out.lt (List.mem_singleton.2 rfl))
    have hgW := Aside0.mk H6.out.rd.lt
    have hKW := Aside0.mk H6.out.keep.1
    clear hm hm2 hm3 hn0 hn0' hn0'' H3 H6
    go_wp2_with fail
    go_loopg [8] n0 (fun kq v8 wr => ∃ (xs : List S45) (s' : St) (vB : Value), s'.1.length ≤ 1099511627776 ∧ kq ≤ n0 ∧ xs.length + kq = n0 ∧ v8 = .int .i64 (kq : Int) ∧
      Aside0 (Fr w w wr W2.heap.size s' [(W6.heap.size, 27, #[.int .i64 (nv (g0 b)), .int .i64 (nv (ns (g0 b))), .int .i64 (nv (ns (ns (g0 b)))), .int .i64 (nv (ns (ns (ns (g0 b))))), vB]), (w.heap.size, 27, Z27)]) ∧
      Aside0 (Kd.S k45A 45 wr W6.heap.size (fun k => W6.heap.size ≤ k) vB xs) ∧ Aside0 (xs ++ (pgsR kq s').1 = gP b ∧ (pgsR kq s').2 = gE b))
    case atStart => exact ⟨[], _, .slice none 0 0, HLL.out, Nat.le_refl _, by simp, rfl, H7, ⟨Kd.S_nil _ _ _ _ _⟩, ⟨by simp only [gP, HGM.out, List.nil_append, Int.toNat_natCast], by simp only [gE, HGM.out, Int.toNat_natCast]⟩⟩
    case round =>
      clear H7
      obtain ⟨xs, s', vB, hsl, hk, hx, rfl, HFr, HR, HE⟩ := hrel
      have hb3 := HFr.out.blk (List.mem_cons_self)
      have hc := blk_cell hb3
      have hf := blk_frozen hb3
      obtain ⟨A', c', hb, hg0, hT⟩ := HFr.out.rd
      have hcg := blk_cell hb
      clear hb3 hb hT
      cases gk with
      | zero =>
        obtain ⟨Av, cv, rfl⟩ := Kd.S_slice HR.out
        have EQ := Aside0.mk (show xs = gP b ∧ s' = gE b from by have h := HE.out; simpa [pgsR] using h)
        clear HE
        cases hs2 : s'.2 with
        | true =>
          rw [hs2] at hcg
          obtain ⟨p2, hp2⟩ : ∃ p, decide ((0 : Int) < (s'.1.length : Int)) = p := ⟨_, rfl⟩
          have hp2' : decide (0 < s'.1.length) = p2 := by rw [← hp2]; simp
          obtain ⟨p3, hp3⟩ : ∃ p, decide (nv (ns (ns (g0 b))) < 0) = p := ⟨_, rfl⟩
          obtain ⟨p4, hp4⟩ : ∃ p, decide (nv (ns (ns (ns (g0 b)))) < 0) = p := ⟨_, rfl⟩
          obtain ⟨p5, hp5⟩ : ∃ p, (nv (g0 b) != 0) = p := ⟨_, rfl⟩
          obtain ⟨p6, hp6⟩ : ∃ p, decide ((0 : Int) < (xs.length : Int)) = p := ⟨_, rfl⟩
          have hp6' : decide (0 < xs.length) = p6 := by rw [← hp6]; simp
          have HGO := Aside0.mk (show gOk b = !(true || p2 || p3 || p4 || p5 && p6) from by unfold gOk; rw [← EQ.out.2, ← EQ.out.1, hs2, hp2', hp3, hp4, hp5, hp6'])
          have HPP := Aside0.mk (And.intro hp2 (And.intro hp2' (And.intro hp3 (And.intro hp4 (And.intro hp5 (And.intro hp6 hp6'))))))
          clear hp2 hp2' hp3 hp4 hp5 hp6 hp6'
          go_upto_region 13 with (fail)
          go_cut [102] (fun v wc => v = .bool (!gOk b) ∧ wr = wc)
          case first =>
            obtain ⟨hp2, hp2', hp3, hp4, hp5, hp6, hp6'⟩ := HPP.out
            go_wp2_with fail
            go_meet
            case rel => exact ⟨by rw [HGO.out]; rfl, rfl⟩
          case rest =>
            obtain ⟨rfl, rfl⟩ := hcut
            have hb0 := HFr.out.blk (List.mem_cons_of_mem _ (List.mem_singleton.2 rfl))
            have hc0 := blk_cell hb0
            have hf0 := blk_frozen hb0
            clear hb0 hcg
            cases hgo : gOk b with
            | false =>
              have HG := Aside0.mk (getF_no (b := b) (by rintro ⟨_, _, _, h⟩; rw [hgo] at h; cases h))
              have H12 := Aside0.mk (Fr.set _ _ _ (Fr.set _ _ _ (Fr.set _ _ _ (Fr.set _ _ _ (Fr.set _ _ _ (HFr.out.sub (L' := [(w.heap.size, 27, Z27)]) (fun x hx => List.mem_cons_of_mem _ hx)) (fun x hx => absurd hx (by simp)) 0 (.int .i64 0)) (fun x hx => absurd hx (by simp)) 1 (.int .i64 0)) (fun x hx => absurd hx (by simp)) 2 (.int .i64 0)) (fun x hx => absurd hx (by simp)) 3 (.int .i64 0)) (fun x hx => absurd hx (by simp)) 4 (.slice none 0 0))
              clear hgo HGO EQ
              go_wp2
              obtain ⟨W12, hW⟩ : ∃ X, (((((wr.setCell ⟨w.heap.size, 0, none⟩ (.int .i64 0)).setCell ⟨w.heap.size, 1, none⟩ (.int .i64 0)).setCell ⟨w.heap.size, 2, none⟩ (.int .i64 0)).setCell ⟨w.heap.size, 3, none⟩ (.int .i64 0)).setCell ⟨w.heap.size, 4, none⟩ (.slice none 0 0)) = X := ⟨_, rfl⟩
              have h13 := H12.out
              rw [hW] at h13
              rw [hW]
              simp only [List.setIfInBounds_toArray, List.set_cons_zero, List.set_cons_succ] at h13
              clear hc hf hc0 hf0
              have hc := blk_cell (h13.blk (List.mem_cons_self))
              have HB := Aside0.mk h13.bel
              clear h13 hW H12 HFr HR
              refine bodyPost_ret (v := .tuple #[.agg #[.int .i64 0, .int .i64 0, .int .i64 0, .int .i64 0, .slice none 0 0], .int .i64 200]) (by simp [results, Try.results15, go_sem, hc]) rfl ⟨.slice none 0 0, by rw [HG.out], by rw [HG.out]; exact Kd.S_nil _ _ _ _ _, HB.out⟩
            | true =>
              have HG := Aside0.mk (getF_yes (b := b) ⟨by rw [HN.out]; omega, HMK.out, HSOK.out, hgo⟩)
              have H12 := Aside0.mk (Fr.set _ _ _ (Fr.set _ _ _ (Fr.set _ _ _ (Fr.set _ _ _ (Fr.set _ _ _ (HFr.out.sub (L' := [(w.heap.size, 27, Z27)]) (fun x hx => List.mem_cons_of_mem _ hx)) (fun x hx => absurd hx (by simp)) 0 (.int .i64 (nv (g0 b)))) (fun x hx => absurd hx (by simp)) 1 (.int .i64 (nv (ns (g0 b))))) (fun x hx => absurd hx (by simp)) 2 (.int .i64 (nv (ns (ns (g0 b)))))) (fun x hx => absurd hx (by simp)) 3 (.int .i64 (nv (ns (ns (ns (g0 b))))))) (fun x hx => absurd hx (by simp)) 4 (.slice Av xs.length cv))
              have R12 := Aside0.mk (Kd.S_far (p := ⟨w.heap.size, 4, none⟩) (Kd.S_far (p := ⟨w.heap.size, 3, none⟩) (Kd.S_far (p := ⟨w.heap.size, 2, none⟩) (Kd.S_far (p := ⟨w.heap.size, 1, none⟩) (Kd.S_far (p := ⟨w.heap.size, 0, none⟩) (Kd.S_mono HR.out (ok' := fun k => W6.heap.size ≤ k ∧ k ≠ w.heap.size) (fun k hk => ⟨hk, by have h1 := hKW.out; have h2 := hlt2.out; omega⟩)) (fun _ hk => hk.2) (.int .i64 (nv (g0 b)))) (fun _ hk => hk.2) (.int .i64 (nv (ns (g0 b))))) (fun _ hk => hk.2) (.int .i64 (nv (ns (ns (g0 b)))))) (fun _ hk => hk.2) (.int .i64 (nv (ns (ns (ns (g0 b))))))) (fun _ hk => hk.2) (.slice Av xs.length cv))
              clear hgo HGO
              go_wp2
              obtain ⟨W12, hW⟩ : ∃ X, (((((wr.setCell ⟨w.heap.size, 0, none⟩ (.int .i64 (nv (g0 b)))).setCell ⟨w.heap.size, 1, none⟩ (.int .i64 (nv (ns (g0 b))))).setCell ⟨w.heap.size, 2, none⟩ (.int .i64 (nv (ns (ns (g0 b)))))).setCell ⟨w.heap.size, 3, none⟩ (.int .i64 (nv (ns (ns (ns (g0 b))))))).setCell ⟨w.heap.size, 4, none⟩ (.slice Av xs.length cv)) = X := ⟨_, rfl⟩
              have h13 := H12.out
              have r13 := R12.out
              rw [hW] at h13 r13
              rw [hW]
              simp only [List.setIfInBounds_toArray, List.set_cons_zero, List.set_cons_succ] at h13
              clear hc hf hc0 hf0
              have hc := blk_cell (h13.blk (List.mem_cons_self))
              have HB := Aside0.mk h13.bel
              have HRR := Aside0.mk (Kd.S_lower (Kd.S_mono r13 (ok' := fun k => w.heap.size ≤ k) (fun k hk => Nat.le_trans hKW.out hk.1)) hKW.out)
              clear h13 r13 hW H12 R12 HFr HR
              refine bodyPost_ret (v := .tuple #[.agg #[.int .i64 (nv (g0 b)), .int .i64 (nv (ns (g0 b))), .int .i64 (nv (ns (ns (g0 b)))), .int .i64 (nv (ns (ns (ns (g0 b))))), .slice Av xs.length cv], .int .i64 0]) (by simp [results, Try.results15, go_sem, hc]) rfl ⟨_, by rw [HG.out], by rw [HG.out]; show Kd.S k45A 45 W12 w.heap.size _ _ (gP b); rw [← EQ.out.1]; exact HRR.out, HB.out⟩
        | false =>
          rw [hs2] at hcg
          obtain ⟨p2, hp2⟩ : ∃ p, decide ((0 : Int) < (s'.1.length : Int)) = p := ⟨_, rfl⟩
          have hp2' : decide (0 < s'.1.length) = p2 := by rw [← hp2]; simp
          obtain ⟨p3, hp3⟩ : ∃ p, decide (nv (ns (ns (g0 b))) < 0) = p := ⟨_, rfl⟩
          obtain ⟨p4, hp4⟩ : ∃ p, decide (nv (ns (ns (ns (g0 b)))) < 0) = p := ⟨_, rfl⟩
          obtain ⟨p5, hp5⟩ : ∃ p, (nv (g0 b) != 0) = p := ⟨_, rfl⟩
          obtain ⟨p6, hp6⟩ : ∃ p, decide ((0 : Int) < (xs.length : Int)) = p := ⟨_, rfl⟩
          have hp6' : decide (0 < xs.length) = p6 := by rw [← hp6]; simp
          have HGO := Aside0.mk (show gOk b = !(false || p2 || p3 || p4 || p5 && p6) from by unfold gOk; rw [← EQ.out.2, ← EQ.out.1, hs2, hp2', hp3, hp4, hp5, hp6'])
          have HPP := Aside0.mk (And.intro hp2 (And.intro hp2' (And.intro hp3 (And.intro hp4 (And.intro hp5 (And.intro hp6 hp6'))))))
          clear hp2 hp2' hp3 hp4 hp5 hp6 hp6'
          go_upto_region 13 with (fail)
          go_cut [102] (fun v wc => v = .bool (!gOk b) ∧ wr = wc)
          case first =>
            obtain ⟨hp2, hp2', hp3, hp4, hp5, hp6, hp6'⟩ := HPP.out
            cases p2 with
            | true =>
              go_wp2_with fail
              go_meet
              case rel => exact ⟨by rw [HGO.out]; rfl, rfl⟩
            | false =>
              cases p3 with
              | true =>
                go_wp2_with fail
                go_meet
                case rel => exact ⟨by rw [HGO.out]; rfl, rfl⟩
              | false =>
                cases p4 with
                | true =>
                  go_wp2_with fail
                  go_meet
                  case rel => exact ⟨by rw [HGO.out]; rfl, rfl⟩
                | false =>
                  cases p5 with
                  | true =>
                    cases p6 with
                    | true =>
                      go_wp2_with fail
                      go_meet
                      case rel => exact ⟨by rw [HGO.out]; rfl, rfl⟩
                    | false =>
                      go_wp2_with fail
                      go_meet
                      case rel => exact ⟨by rw [HGO.out]; rfl, rfl⟩
                  | false =>
                    go_wp2_with fail
                    go_meet
                    case rel => exact ⟨by rw [HGO.out]; rfl, rfl⟩
          case rest =>
            obtain ⟨rfl, rfl⟩ := hcut
            have hb0 := HFr.out.blk (List.mem_cons_of_mem _ (List.mem_singleton.2 rfl))
            have hc0 := blk_cell hb0
            have hf0 := blk_frozen hb0
            clear hb0 hcg
            cases hgo : gOk b with
            | false =>
              have HG := Aside0.mk (getF_no (b := b) (by rintro ⟨_, _, _, h⟩; rw [hgo] at h; cases h))
              have H12 := Aside0.mk (Fr.set _ _ _ (Fr.set _ _ _ (Fr.set _ _ _ (Fr.set _ _ _ (Fr.set _ _ _ (HFr.out.sub (L' := [(w.heap.size, 27, Z27)]) (fun x hx => List.mem_cons_of_mem _ hx)) (fun x hx => absurd hx (by simp)) 0 (.int .i64 0)) (fun x hx => absurd hx (by simp)) 1 (.int .i64 0)) (fun x hx => absurd hx (by simp)) 2 (.int .i64 0)) (fun x hx => absurd hx (by simp)) 3 (.int .i64 0)) (fun x hx => absurd hx (by simp)) 4 (.slice none 0 0))
              clear hgo HGO EQ
              go_wp2
              obtain ⟨W12, hW⟩ : ∃ X, (((((wr.setCell ⟨w.heap.size, 0, none⟩ (.int .i64 0)).setCell ⟨w.heap.size, 1, none⟩ (.int .i64 0)).setCell ⟨w.heap.size, 2, none⟩ (.int .i64 0)).setCell ⟨w.heap.size, 3, none⟩ (.int .i64 0)).setCell ⟨w.heap.size, 4, none⟩ (.slice none 0 0)) = X := ⟨_, rfl⟩
              have h13 := H12.out
              rw [hW] at h13
              rw [hW]
              simp only [List.setIfInBounds_toArray, List.set_cons_zero, List.set_cons_succ] at h13
              clear hc hf hc0 hf0
              have hc := blk_cell (h13.blk (List.mem_cons_self))
              have HB := Aside0.mk h13.bel
              clear h13 hW H12 HFr HR
              refine bodyPost_ret (v := .tuple #[.agg #[.int .i64 0, .int .i64 0, .int .i64 0, .int .i64 0, .slice none 0 0], .int .i64 200]) (by simp [results, Try.results15, go_sem, hc]) rfl ⟨.slice none 0 0, by rw [HG.out], by rw [HG.out]; exact Kd.S_nil _ _ _ _ _, HB.out⟩
            | true =>
              have HG := Aside0.mk (getF_yes (b := b) ⟨by rw [HN.out]; omega, HMK.out, HSOK.out, hgo⟩)
              have H12 := Aside0.mk (Fr.set _ _ _ (Fr.set _ _ _ (Fr.set _ _ _ (Fr.set _ _ _ (Fr.set _ _ _ (HFr.out.sub (L' := [(w.heap.size, 27, Z27)]) (fun x hx => List.mem_cons_of_mem _ hx)) (fun x hx => absurd hx (by simp)) 0 (.int .i64 (nv (g0 b)))) (fun x hx => absurd hx (by simp)) 1 (.int .i64 (nv (ns (g0 b))))) (fun x hx => absurd hx (by simp)) 2 (.int .i64 (nv (ns (ns (g0 b)))))) (fun x hx => absurd hx (by simp)) 3 (.int .i64 (nv (ns (ns (ns (g0 b))))))) (fun x hx => absurd hx (by simp)) 4 (.slice Av xs.length cv))
              have R12 := Aside0.mk (Kd.S_far (p := ⟨w.heap.size, 4, none⟩) (Kd.S_far (p := ⟨w.heap.size, 3, none⟩) (Kd.S_far (p := ⟨w.heap.size, 2, none⟩) (Kd.S_far (p := ⟨w.heap.size, 1, none⟩) (Kd.S_far (p := ⟨w.heap.size, 0, none⟩) (Kd.S_mono HR.out (ok' := fun k => W6.heap.size ≤ k ∧ k ≠ w.heap.size) (fun k hk => ⟨hk, by have h1 := hKW.out; have h2 := hlt2.out; omega⟩)) (fun _ hk => hk.2) (.int .i64 (nv (g0 b)))) (fun _ hk => hk.2) (.int .i64 (nv (ns (g0 b))))) (fun _ hk => hk.2) (.int .i64 (nv (ns (ns (g0 b)))))) (fun _ hk => hk.2) (.int .i64 (nv (ns (ns (ns (g0 b))))))) (fun _ hk => hk.2) (.slice Av xs.length cv))
              clear hgo HGO
              go_wp2
              obtain ⟨W12, hW⟩ : ∃ X, (((((wr.setCell ⟨w.heap.size, 0, none⟩ (.int .i64 (nv (g0 b)))).setCell ⟨w.heap.size, 1, none⟩ (.int .i64 (nv (ns (g0 b))))).setCell ⟨w.heap.size, 2, none⟩ (.int .i64 (nv (ns (ns (g0 b)))))).setCell ⟨w.heap.size, 3, none⟩ (.int .i64 (nv (ns (ns (ns (g0 b))))))).setCell ⟨w.heap.size, 4, none⟩ (.slice Av xs.length cv)) = X := ⟨_, rfl⟩
              have h13 := H12.out
              have r13 := R12.out
              rw [hW] at h13 r13
              rw [hW]
              simp only [List.setIfInBounds_toArray, List.set_cons_zero, List.set_cons_succ] at h13
              clear hc hf hc0 hf0
              have hc := blk_cell (h13.blk (List.mem_cons_self))
              have HB := Aside0.mk h13.bel
              have HRR := Aside0.mk (Kd.S_lower (Kd.S_mono r13 (ok' := fun k => w.heap.size ≤ k) (fun k hk => Nat.le_trans hKW.out hk.1)) hKW.out)
              clear h13 r13 hW H12 R12 HFr HR
              refine bodyPost_ret (v := .tuple #[.agg #[.int .i64 (nv (g0 b)), .int .i64 (nv (ns (g0 b))), .int .i64 (nv (ns (ns (g0 b)))), .int .i64 (nv (ns (ns (ns (g0 b))))), .slice Av xs.length cv], .int .i64 0]) (by simp [results, Try.results15, go_sem, hc]) rfl ⟨_, by rw [HG.out], by rw [HG.out]; show Kd.S k45A 45 W12 w.heap.size _ _ (gP b); rw [← EQ.out.1]; exact HRR.out, HB.out⟩
      | succ k =>
        obtain ⟨Av, cv, rfl⟩ := Kd.S_slice HR.out
        cases hs2 : s'.2 with
        | true =>
          rw [hs2] at hcg
          have EQ := Aside0.mk (show xs = gP b ∧ s' = gE b from by have h := HE.out; simpa [pgsR, hs2] using h)
          clear HE
          obtain ⟨p2, hp2⟩ : ∃ p, decide ((0 : Int) < (s'.1.length : Int)) = p := ⟨_, rfl⟩
          have hp2' : decide (0 < s'.1.length) = p2 := by rw [← hp2]; simp
          obtain ⟨p3, hp3⟩ : ∃ p, decide (nv (ns (ns (g0 b))) < 0) = p := ⟨_, rfl⟩
          obtain ⟨p4, hp4⟩ : ∃ p, decide (nv (ns (ns (ns (g0 b)))) < 0) = p := ⟨_, rfl⟩
          obtain ⟨p5, hp5⟩ : ∃ p, (nv (g0 b) != 0) = p := ⟨_, rfl⟩
          obtain ⟨p6, hp6⟩ : ∃ p, decide ((0 : Int) < (xs.length : Int)) = p := ⟨_, rfl⟩
          have hp6' : decide (0 < xs.length) = p6 := by rw [← hp6]; simp
          have HGO := Aside0.mk (show gOk b = !(true || p2 || p3 || p4 || p5 && p6) from by unfold gOk; rw [← EQ.out.2, ← EQ.out.1, hs2, hp2', hp3, hp4, hp5, hp6'])
          have HPP := Aside0.mk (And.intro hp2 (And.intro hp2' (And.intro hp3 (And.intro hp4 (And.intro hp5 (And.intro hp6 hp6'))))))
          clear hp2 hp2' hp3 hp4 hp5 hp6 hp6'
          go_upto_region 13 with (fail)
          go_cut [102] (fun v wc => v = .bool (!gOk b) ∧ wr = wc)
          case first =>
            obtain ⟨hp2, hp2', hp3, hp4, hp5, hp6, hp6'⟩ := HPP.out
            go_wp2_with fail
            go_meet
            case rel => exact ⟨by rw [HGO.out]; rfl, rfl⟩
          case rest =>
            obtain ⟨rfl, rfl⟩ := hcut
            have hb0 := HFr.out.blk (List.mem_cons_of_mem _ (List.mem_singleton.2 rfl))
            have hc0 := blk_cell hb0
            have hf0 := blk_frozen hb0
            clear hb0 hcg
            cases hgo : gOk b with
            | false =>
              have HG := Aside0.mk (getF_no (b := b) (by rintro ⟨_, _, _, h⟩; rw [hgo] at h; cases h))
              have H12 := Aside0.mk (Fr.set _ _ _ (Fr.set _ _ _ (Fr.set _ _ _ (Fr.set _ _ _ (Fr.set _ _ _ (HFr.out.sub (L' := [(w.heap.size, 27, Z27)]) (fun x hx => List.mem_cons_of_mem _ hx)) (fun x hx => absurd hx (by simp)) 0 (.int .i64 0)) (fun x hx => absurd hx (by simp)) 1 (.int .i64 0)) (fun x hx => absurd hx (by simp)) 2 (.int .i64 0)) (fun x hx => absurd hx (by simp)) 3 (.int .i64 0)) (fun x hx => absurd hx (by simp)) 4 (.slice none 0 0))
              clear hgo HGO EQ
              go_wp2
              obtain ⟨W12, hW⟩ : ∃ X, (((((wr.setCell ⟨w.heap.size, 0, none⟩ (.int .i64 0)).setCell ⟨w.heap.size, 1, none⟩ (.int .i64 0)).setCell ⟨w.heap.size, 2, none⟩ (.int .i64 0)).setCell ⟨w.heap.size, 3, none⟩ (.int .i64 0)).setCell ⟨w.heap.size, 4, none⟩ (.slice none 0 0)) = X := ⟨_, rfl⟩
              have h13 := H12.out
              rw [hW] at h13
              rw [hW]
              simp only [List.setIfInBounds_toArray, List.set_cons_zero, List.set_cons_succ] at h13
              clear hc hf hc0 hf0
              have hc := blk_cell (h13.blk (List.mem_cons_self))
              have HB := Aside0.mk h13.bel
              clear h13 hW H12 HFr HR
              refine bodyPost_ret (v := .tuple #[.agg #[.int .i64 0, .int .i64 0, .int .i64 0, .int .i64 0, .slice none 0 0], .int .i64 200]) (by simp [results, Try.results15, go_sem, hc]) rfl ⟨.slice none 0 0, by rw [HG.out], by rw [HG.out]; exact Kd.S_nil _ _ _ _ _, HB.out⟩
            | true =>
              have HG := Aside0.mk (getF_yes (b := b) ⟨by rw [HN.out]; omega, HMK.out, HSOK.out, hgo⟩)
              have H12 := Aside0.mk (Fr.set _ _ _ (Fr.set _ _ _ (Fr.set _ _ _ (Fr.set _ _ _ (Fr.set _ _ _ (HFr.out.sub (L' := [(w.heap.size, 27, Z27)]) (fun x hx => List.mem_cons_of_mem _ hx)) (fun x hx => absurd hx (by simp)) 0 (.int .i64 (nv (g0 b)))) (fun x hx => absurd hx (by simp)) 1 (.int .i64 (nv (ns (g0 b))))) (fun x hx => absurd hx (by simp)) 2 (.int .i64 (nv (ns (ns (g0 b)))))) (fun x hx => absurd hx (by simp)) 3 (.int .i64 (nv (ns (ns (ns (g0 b))))))) (fun x hx => absurd hx (by simp)) 4 (.slice Av xs.length cv))
              have R12 := Aside0.mk (Kd.S_far (p := ⟨w.heap.size, 4, none⟩) (Kd.S_far (p := ⟨w.heap.size, 3, none⟩) (Kd.S_far (p := ⟨w.heap.size, 2, none⟩) (Kd.S_far (p := ⟨w.heap.size, 1, none⟩) (Kd.S_far (p := ⟨w.heap.size, 0, none⟩) (Kd.S_mono HR.out (ok' := fun k => W6.heap.size ≤ k ∧ k ≠ w.heap.size) (fun k hk => ⟨hk, by have h1 := hKW.out; have h2 := hlt2.out; omega⟩)) (fun _ hk => hk.2) (.int .i64 (nv (g0 b)))) (fun _ hk => hk.2) (.int .i64 (nv (ns (g0 b))))) (fun _ hk => hk.2) (.int .i64 (nv (ns (ns (g0 b)))))) (fun _ hk => hk.2) (.int .i64 (nv (ns (ns (ns (g0 b))))))) (fun _ hk => hk.2) (.slice Av xs.length cv))
              clear hgo HGO
              go_wp2
              obtain ⟨W12, hW⟩ : ∃ X, (((((wr.setCell ⟨w.heap.size, 0, none⟩ (.int .i64 (nv (g0 b)))).setCell ⟨w.heap.size, 1, none⟩ (.int .i64 (nv (ns (g0 b))))).setCell ⟨w.heap.size, 2, none⟩ (.int .i64 (nv (ns (ns (g0 b)))))).setCell ⟨w.heap.size, 3, none⟩ (.int .i64 (nv (ns (ns (ns (g0 b))))))).setCell ⟨w.heap.size, 4, none⟩ (.slice Av xs.length cv)) = X := ⟨_, rfl⟩
              have h13 := H12.out
              have r13 := R12.out
              rw [hW] at h13 r13
              rw [hW]
              simp only [List.setIfInBounds_toArray, List.set_cons_zero, List.set_cons_succ] at h13
              clear hc hf hc0 hf0
              have hc := blk_cell (h13.blk (List.mem_cons_self))
              have HB := Aside0.mk h13.bel
              have HRR := Aside0.mk (Kd.S_lower (Kd.S_mono r13 (ok' := fun k => w.heap.size ≤ k) (fun k hk => Nat.le_trans hKW.out hk.1)) hKW.out)
              clear h13 r13 hW H12 R12 HFr HR
              refine bodyPost_ret (v := .tuple #[.agg #[.int .i64 (nv (g0 b)), .int .i64 (nv (ns (g0 b))), .int .i64 (nv (ns (ns (g0 b)))), .int .i64 (nv (ns (ns (ns (g0 b))))), .slice Av xs.length cv], .int .i64 0]) (by simp [results, Try.results15, go_sem, hc]) rfl ⟨_, by rw [HG.out], by rw [HG.out]; show Kd.S k45A 45 W12 w.heap.size _ _ (gP b); rw [← EQ.out.1]; exact HRR.out, HB.out⟩
        | false =>
          rw [hs2] at hcg
          have EQ := Aside0.mk (show xs ++ (pgV s' :: (pgsR k (pgE s')).1) = gP b ∧ (pgsR k (pgE s')).2 = gE b from by have h := HE.out; simpa [pgsR, hs2] using h)
          clear HE hs2
          have HFd := Aside0.mk HFr.out.drew
          have HRd := Aside0.mk (Kd.S_drew HR.out)
          have hcd : ∀ (i : Nat), wr.drew.cell? ⟨W6.heap.size, i, none⟩ = #[.int .i64 (nv (g0 b)), .int .i64 (nv (ns (g0 b))), .int .i64 (nv (ns (ns (g0 b)))), .int .i64 (nv (ns (ns (ns (g0 b))))), .slice Av xs.length cv][i]? := hc
          go_wp2_with fail
          clear hcg hf hc
          have hWwr := Aside0.mk (Nat.le_of_lt (HFr.out.lt (List.mem_cons_self)))
          have hvb := Aside0.mk (fun k (hk : (Value.slice Av xs.length cv).ownBlock = some k) => ((Kd.R_bound (Kd.S_R HR.out)).1 k hk).2.2.1)
          have HRe := Aside0.mk (Kd.S_mono HRd.out (ok' := fun k => W6.heap.size ≤ k ∧ k ≠ W2.heap.size) (fun k hk => ⟨hk, by have := hgW.out; omega⟩))
          go_region_law (first
            | (refine goes_ (N := some 65) Try.func32 (by kernel_rfl) rfl #[.pointer (some ⟨W2.heap.size, 0, none⟩)] (by rfl) rfl rfl (by simp only [List.map_toArray, List.map_cons, List.map_nil]; rfl) ?_; refine (page_s s' HFd.out hsl).mono ?_; rintro e w5 ⟨v5, rfl, r5, h5, k5⟩; refine ⟨_, rfl, ?_⟩; obtain ⟨A5, c5, hv5⟩ := Kd.S_slice r5; subst hv5; have H5 := Aside0.mk h5; have R5 := Aside0.mk (Kd.S_oldK HRe.out k5); have RR5 := Aside0.mk r5; have hsz5 := Aside0.mk k5.1; have hc5 := blk_cell (h5.blk (List.mem_cons_self)); have hc5a := fun (o : Obj) (i : Nat) => (World.cell?_alloc_lt w5 o ⟨W6.heap.size, i, none⟩ (H5.out.lt (List.mem_cons_self))).trans (hc5 i); have hW5 := Aside0.mk (Nat.le_of_lt (h5.lt (List.mem_cons_self))); clear h5 k5 r5)
            | (refine Kd.S_append_step k45A (w0 := w5) W6.heap.size rfl (.tmp 63) (.tmp 66) 25 45 (.agg #[(.int .i64 0), (.int .i64 0), (.bool false), (.slice none 0 0)]) 48 rfl Try.underlying25 infoA45 rfl (by decide) (by decide) (.slice Av xs.length cv) xs (pgV s') [.int .i64 (pgV s').f0, .int .i64 (pgV s').f1, .bool (pgV s').f2, .slice A5 (pgV s').f3.length c5] (fun k => W6.heap.size ≤ k) (fun k => wr.heap.size ≤ k) rfl rfl (k45A_mkM _ _ _ _ (Kd.S_lower RR5.out hWwr.out)) (fun k hk => ⟨Nat.le_trans hWwr.out hk, fun e => by have := hvb.out k e.symm; omega⟩) (fun k hk => Nat.le_trans hW5.out hk) (Kd.S_mono R5.out (fun k hk => ⟨hk.1, fun h2 => Nat.lt_irrefl _ (Nat.lt_of_lt_of_le hk.2 h2)⟩)) (Below.refl _ _) hW5.out (by omega) ?_; intro v1 w6 HR6 HB6 HG6 HD6; obtain ⟨A6, c6, hv6⟩ := Kd.S_slice HR6; subst hv6; have H6 := Aside0.mk (Fr.grown H5.out (Kd.S_R R5.out) hKW.out HG6 (H5.out.bel.trans (HB6.mono hKW.out)) (by decide) (by intro x hx; simp only [List.mem_cons, List.not_mem_nil, or_false] at hx; rcases hx with rfl | rfl <;> exact (by decide : (45 : Nat) ≠ 27))); have R6 := Aside0.mk HR6; have hc6 := blk_cell (H6.out.blk (List.mem_cons_self)); have hf6 := blk_frozen (H6.out.blk (List.mem_cons_self)); clear HR6 HB6 HG6 HD6))
          all_goals
            have HL2 := Aside0.mk (Nat.le_trans (pgE_len s') hsl)
            have H7 := Aside0.mk (Fr.set _ _ _ H6.out (by intro x hx; rw [List.mem_singleton.1 hx]; have := hlt2.out; simp only; omega) 4 (.slice A6 (xs ++ [pgV s']).length c6))
            have R7 := Aside0.mk (Kd.S_set R6.out (H6.out.blk (List.mem_cons_self)) (by decide) 4 (.slice A6 (xs ++ [pgV s']).length c6))
            simp only [List.length_append, List.length_cons, List.length_nil, Nat.zero_add] at H7 R7
            go_wp2_with fail
            go_roundg k
            case measure => omega
            case rel => exact ⟨xs ++ [pgV s'], pgE s', _, HL2.out, by omega, by simp; omega, by go_num, H7, ⟨by simpa using R7.out⟩, ⟨by rw [List.append_assoc]; exact EQ.out.1, EQ.out.2⟩⟩
  · have hso' : sumOk b = false := by simpa using hso
    have h7 : (nv (b.drop e, false) == wrap64 (fnvs (b.take e))) = false := by rw [← HSO.out]; exact hso'
    have h7' : (nv (b.drop e, false) != wrap64 (fnvs (b.take e))) = true := by simpa using h7
    have HG := Aside0.mk (getF_no (b := b) (by rintro ⟨_, _, h3, _⟩; rw [hso'] at h3; cases h3))
    have H5 := Aside0.mk (Fr.set _ _ _ (Fr.set _ _ _ (Fr.set _ _ _ (Fr.set _ _ _ (Fr.set _ _ _ H2.out (fun x hx => absurd hx (by simp)) 0 (.int .i64 0)) (fun x hx => absurd hx (by simp)) 1 (.int .i64 0)) (fun x hx => absurd hx (by simp)) 2 (.int .i64 0)) (fun x hx => absurd hx (by simp)) 3 (.int .i64 0)) (fun x hx => absurd hx (by simp)) 4 (.slice none 0 0))
    clear hso hso'
    go_wp2
    obtain ⟨W12, hW⟩ : ∃ X, (((((W2.setCell ⟨w.heap.size, 0, none⟩ (.int .i64 0)).setCell ⟨w.heap.size, 1, none⟩ (.int .i64 0)).setCell ⟨w.heap.size, 2, none⟩ (.int .i64 0)).setCell ⟨w.heap.size, 3, none⟩ (.int .i64 0)).setCell ⟨w.heap.size, 4, none⟩ (.slice none 0 0)) = X := ⟨_, rfl⟩
    have h13 := H5.out
    rw [hW] at h13
    rw [hW]
    simp only [List.setIfInBounds_toArray, List.set_cons_zero, List.set_cons_succ] at h13
    have hc := blk_cell (h13.blk (List.mem_cons_self))
    have HB := Aside0.mk h13.bel
    clear h13 hc2 hf2 hW H5 H2
    refine bodyPost_ret (v := .tuple #[.agg #[.int .i64 0, .int .i64 0, .int .i64 0, .int .i64 0, .slice none 0 0], .int .i64 200]) (by simp [results, Try.results15, go_sem, hc]) rfl ⟨.slice none 0 0, by rw [HG.out], by rw [HG.out]; exact Kd.S_nil _ _ _ _ _, HB.out⟩
theorem get_all (A : Option Addr) (c : Nat) (b : List Int) (w : World) (hC : Kd.C (Kd.int .u8) w A b.length b) (hc : b.length ≤ c) (hl : b.length ≤ 1099511627776) :
    Calls Try.prog 15 #[.slice A b.length c] w (GetPost w b) := by
  by_cases h1 : b.length < 56
  · exact get_early A c b w ⟨hC, hc⟩ hl (.inl h1)
  · cases hm : markOk b with
    | false => exact get_early A c b w ⟨hC, hc⟩ hl (.inr hm)
    | true =>
      obtain ⟨e, he⟩ : ∃ e, b.length = e + 8 := ⟨b.length - 8, by omega⟩
      have h := get_late A c b w ⟨hC, hc⟩ e he (by omega) (by omega) hm
      rw [← he] at h
      exact h
def putF (a0 a1 a2 a3 : Int) (l : List S45) : Option (List Int × Int) :=
  if a2 < 0 ∨ a3 < 0 ∨ a0 ≠ 0 ∧ 0 < l.length then some ([], 200)
  else if (bodyB a0 a1 a2 a3 l).length + 8 ≤ 140737488355328 then some (putB a0 a1 a2 a3 l, 0) else none
def getT (b : List Int) : Option (Int × Int × Int × Int × List S45 × Int) := if b.length ≤ 1099511627776 then some (getF b) else none
theorem put_all (a0 a1 a2 a3 : Int) (A : Option Addr) (c : Nat) (l : List S45) (r1 : List Int) (r2 : Int) (w : World) (hC : Kd.C k45 w A l.length l) (hc : l.length ≤ c) (h : putF a0 a1 a2 a3 l = some (r1, r2)) :
    Calls Try.prog 10 #[.agg #[.int .i64 a0, .int .i64 a1, .int .i64 a2, .int .i64 a3, .slice A l.length c]] w fun e w' =>
      ∃ v : Value, e = .returned (.tuple #[v, .int .i64 r2]) ∧ Kd.R (Kd.int .u8) 5 w' w.heap.size (fun _ => True) v r1 ∧ Below w.heap.size w w' := by
  unfold putF at h
  split at h
  · rename_i h0
    cases h
    exact (put_no a0 a1 a2 a3 A c l w hC hc h0).mono fun e w' ⟨he, hb⟩ => ⟨_, he, Kd.R_nil _ _ _ _ _, hb⟩
  · rename_i h0
    split at h
    · rename_i h1
      cases h
      exact put_ok a0 a1 a2 a3 A c l w hC hc (by omega) (by omega) (by omega) h1
    · cases h
theorem get_tells (A : Option Addr) (c : Nat) (b : List Int) (r1 r2 r3 r4 : Int) (r5 : List S45) (r6 : Int) (w : World) (hC : Kd.C (Kd.int .u8) w A b.length b) (hc : b.length ≤ c) (h : getT b = some (r1, r2, r3, r4, r5, r6)) :
    Calls Try.prog 15 #[.slice A b.length c] w fun e w' =>
      ∃ v4_ : Value, e = .returned (.tuple #[.agg #[.int .i64 r1, .int .i64 r2, .int .i64 r3, .int .i64 r4, v4_], .int .i64 r6]) ∧ Kd.R k45 45 w' w.heap.size (fun _ => True) v4_ r5 ∧ Below w.heap.size w w' := by
  unfold getT at h
  split at h
  · rename_i h0
    have h1 : getF b = (r1, r2, r3, r4, r5, r6) := Option.some.inj h
    refine (get_all A c b w hC hc h0).mono fun e w' ⟨v, he, hs, hb⟩ => ?_
    rw [h1] at he hs
    exact ⟨v, he, Kd.R_mono (R_of_A hs) (fun _ _ => trivial), hb⟩
  · cases h
def inR (n : Int) : Prop := -9223372036854775808 ≤ n ∧ n < 9223372036854775808
def byt (l : List Int) : Prop := ∀ x ∈ l, 0 ≤ x ∧ x < 256
theorem byt_app {a b : List Int} (ha : byt a) (hb : byt b) : byt (a ++ b) := fun x hx => (List.mem_append.1 hx).elim (ha x) (hb x)
theorem byt_right {a b : List Int} (h : byt (a ++ b)) : byt b := fun x hx => h x (List.mem_append_right _ hx)
theorem byt_left {a b : List Int} (h : byt (a ++ b)) : byt a := fun x hx => h x (List.mem_append_left _ hx)
theorem byt_be8 (n : Int) : byt (be8 n) := fun x hx => by
  simp only [be8, List.mem_cons, List.not_mem_nil, or_false] at hx
  rcases hx with rfl | rfl | rfl | rfl | rfl | rfl | rfl | rfl <;> omega
theorem wrapU (n : Int) : IntKind.u64.wrap n = n % 18446744073709551616 := IntKind.wrap_u64 n
theorem wraps_u64 (n : Int) (h0 : 0 ≤ n) (h1 : n < 2 ^ 64) : IntKind.u64.wrap n = n := by rw [wrapU]; omega
theorem step8_eq (n c : Int) (hn : 0 ≤ n) (hn1 : n < 72057594037927936) (hc : 0 ≤ c) (hc1 : c < 256) : step8 n c = n * 256 + c := by
  unfold step8
  rw [wraps_u64 (n * 256) (by omega) (by omega), wraps_u64 c hc (by omega)]
  exact bits_join .u64 64 (by decide) wraps_u64 8 (n * 256) c (by omega) (by omega) (by omega) hc (by omega) (by omega)
def poly (b0 b1 b2 b3 b4 b5 b6 b7 : Int) : Int := ((((((b0 * 256 + b1) * 256 + b2) * 256 + b3) * 256 + b4) * 256 + b5) * 256 + b6) * 256 + b7
theorem fold8_eq {b0 b1 b2 b3 b4 b5 b6 b7 : Int} (h : byt [b0, b1, b2, b3, b4, b5, b6, b7]) : fold8 [b0, b1, b2, b3, b4, b5, b6, b7] = poly b0 b1 b2 b3 b4 b5 b6 b7 := by
  have h0 := h b0 (by simp)
  have h1 := h b1 (by simp)
  have h2 := h b2 (by simp)
  have h3 := h b3 (by simp)
  have h4 := h b4 (by simp)
  have h5 := h b5 (by simp)
  have h6 := h b6 (by simp)
  have h7 := h b7 (by simp)
  simp only [fold8, List.foldl_cons, List.foldl_nil]
  rw [step8_eq 0 b0 (by omega) (by omega) h0.1 h0.2]
  rw [step8_eq _ b1 (by omega) (by omega) h1.1 h1.2]
  rw [step8_eq _ b2 (by omega) (by omega) h2.1 h2.2]
  rw [step8_eq _ b3 (by omega) (by omega) h3.1 h3.2]
  rw [step8_eq _ b4 (by omega) (by omega) h4.1 h4.2]
  rw [step8_eq _ b5 (by omega) (by omega) h5.1 h5.2]
  rw [step8_eq _ b6 (by omega) (by omega) h6.1 h6.2]
  rw [step8_eq _ b7 (by omega) (by omega) h7.1 h7.2]
  unfold poly
  omega
theorem poly_be8 (n : Int) (h : inR n) : wrap64 (fold8 (be8 n)) = n := by
  have hb := byt_be8 n
  unfold be8 at hb ⊢
  rw [fold8_eq hb]
  have h1 := h.1
  have h2 := h.2
  unfold poly wrap64
  rw [wrapU]
  omega
theorem be8_poly {b0 b1 b2 b3 b4 b5 b6 b7 : Int} (h : byt [b0, b1, b2, b3, b4, b5, b6, b7]) : be8 (wrap64 (fold8 [b0, b1, b2, b3, b4, b5, b6, b7])) = [b0, b1, b2, b3, b4, b5, b6, b7] := by
  have h0 := h b0 (by simp)
  have h1 := h b1 (by simp)
  have h2 := h b2 (by simp)
  have h3 := h b3 (by simp)
  have h4 := h b4 (by simp)
  have h5 := h b5 (by simp)
  have h6 := h b6 (by simp)
  have h7 := h b7 (by simp)
  rw [fold8_eq h]
  unfold be8
  have e : IntKind.u64.wrap (wrap64 (poly b0 b1 b2 b3 b4 b5 b6 b7)) = poly b0 b1 b2 b3 b4 b5 b6 b7 := by
    unfold poly wrap64
    rw [wrapU]
    omega
  rw [e]
  unfold poly
  congr 1
  · omega
  congr 1
  · omega
  congr 1
  · omega
  congr 1
  · omega
  congr 1
  · omega
  congr 1
  · omega
  congr 1
  · omega
  congr 1
  · omega
theorem inR_wrap (n : Int) : inR (wrap64 n) := by unfold inR wrap64; omega
theorem tk_fwd (a rest : List Int) (n : Int) (h : (a.length : Int) = n) : tk n (a ++ rest) false = (a, rest, false) := by
  unfold tk
  rw [if_neg (by simp; omega)]
  have : n.toNat = a.length := by omega
  rw [this]
  simp
theorem tk_bwd {n : Int} {l : List Int} {bad : Bool} (h : (tk n l bad).2.2 = false) : bad = false ∧ 0 ≤ n ∧ ((tk n l bad).1.length : Int) = n ∧ l = (tk n l bad).1 ++ (tk n l bad).2.1 := by
  unfold tk at h ⊢
  split at h
  · cases h
  · rename_i hc
    rw [if_neg hc]
    have h1 : bad = false := by cases bad <;> simp_all
    refine ⟨h1, by omega, ?_, by simp⟩
    simp
    omega
theorem num_fwd (n : Int) (rest : List Int) (h : inR n) : nv (be8 n ++ rest, false) = n ∧ ns (be8 n ++ rest, false) = (rest, false) := by
  unfold nv ns numR
  simp only [tk_fwd (be8 n) rest 8 rfl]
  exact ⟨poly_be8 n h, trivial⟩
theorem num_bwd (s : St) (hb : byt s.1) (h : (ns s).2 = false) : s.2 = false ∧ s.1 = be8 (nv s) ++ (ns s).1 ∧ inR (nv s) ∧ byt (ns s).1 := by
  obtain ⟨h1, _, h3, h4⟩ := tk_bwd (n := 8) (l := s.1) (bad := s.2) h
  have hb1 : byt (tk 8 s.1 s.2).1 := by rw [h4] at hb; exact byt_left hb
  have hb2 : byt (tk 8 s.1 s.2).2.1 := by rw [h4] at hb; exact byt_right hb
  refine ⟨h1, ?_, inR_wrap _, hb2⟩
  have e : be8 (nv s) = (tk 8 s.1 s.2).1 := by
    unfold nv numR
    simp only
    generalize tk 8 s.1 s.2 = t at h3 hb1
    obtain ⟨x, y⟩ := t
    simp only at h3 hb1 ⊢
    match x, h3, hb1 with
    | [b0, b1, b2, b3, b4, b5, b6, b7], _, hb => exact be8_poly hb
  rw [e]
  exact h4
theorem tr_fwd (t : Bool) (rest : List Int) : bv (trB t ++ rest, false) = t ∧ bs (trB t ++ rest, false) = (rest, false) := by
  unfold bv bs truR
  simp only [tk_fwd (trB t) rest 1 rfl]
  cases t <;> simp [trB, rd]
theorem tr_bwd (s : St) (hb : byt s.1) (h : (bs s).2 = false) : s.2 = false ∧ s.1 = trB (bv s) ++ (bs s).1 ∧ byt (bs s).1 := by
  have h' : (tk 1 s.1 s.2).2.2 = false := by
    unfold bs truR at h
    split at h
    · exact h
    · simp only [Bool.or_eq_false_iff] at h; exact h.1
  obtain ⟨h1, _, h3, h4⟩ := tk_bwd h'
  have hb1 : byt (tk 1 s.1 s.2).1 := by rw [h4] at hb; exact byt_left hb
  have hb2 : byt (tk 1 s.1 s.2).2.1 := by rw [h4] at hb; exact byt_right hb
  have e1 : (bs s).1 = (tk 1 s.1 s.2).2.1 := by unfold bs truR; split <;> rfl
  refine ⟨h1, ?_, by rw [e1]; exact hb2⟩
  rw [e1]
  have e2 : trB (bv s) = (tk 1 s.1 s.2).1 := by
    unfold bs at h
    unfold bv
    unfold truR at h ⊢
    generalize tk 1 s.1 s.2 = t at h3 hb1 h
    obtain ⟨x, y⟩ := t
    simp only at h3 hb1 h ⊢
    match x, h3, hb1 with
    | [b], _, hb =>
      have hx := hb b (by simp)
      simp [rd] at h ⊢
      have h01 : b = 0 ∨ b = 1 := by omega
      rcases h01 with rfl | rfl <;> simp [trB]
  rw [e2]
  exact h4
theorem strOfNums_bytesOf (s : ByteArray) : strOfNums (bytesOf s) = s := by
  have h : (strOfNums (bytesOf s)).data.toList = s.data.toList := by
    rw [strOfNums_data, bytesOf, List.map_map]
    conv => rhs; rw [← List.map_id s.data.toList]
    refine List.map_congr_left fun x hx => ?_
    simp
  have h2 : (strOfNums (bytesOf s)).data = s.data := Array.ext' h
  cases s
  exact congrArg ByteArray.mk h2
theorem bytesOf_len (s : ByteArray) : (bytesOf s).length = s.size := bytesOf_length s
theorem byt_bytesOf (s : ByteArray) : byt (bytesOf s) := fun x hx => by
  simp only [bytesOf, List.mem_map] at hx
  obtain ⟨u, _, rfl⟩ := hx
  exact ⟨Int.natCast_nonneg _, by have := u.toNat_lt; omega⟩
def txB (s : ByteArray) : List Int := be8 s.size ++ bytesOf s
theorem tx_fwd (s : ByteArray) (rest : List Int) (h : (s.size : Int) < 9223372036854775808) : tv (txB s ++ rest, false) = s ∧ ts (txB s ++ rest, false) = (rest, false) := by
  have e := num_fwd s.size (bytesOf s ++ rest) ⟨by omega, h⟩
  unfold nv ns at e
  unfold tv ts txtR txB
  rw [List.append_assoc]
  obtain ⟨e1, e2⟩ := e
  simp only at e1 e2 ⊢
  rw [e1, e2]
  simp only [tk_fwd (bytesOf s) rest s.size (by rw [bytesOf_len])]
  exact ⟨strOfNums_bytesOf s, trivial⟩
theorem tx_bwd (s : St) (hb : byt s.1) (h : (ts s).2 = false) : s.2 = false ∧ s.1 = txB (tv s) ++ (ts s).1 ∧ ((tv s).size : Int) < 9223372036854775808 ∧ byt (ts s).1 := by
  unfold ts txtR at h
  simp only at h
  obtain ⟨h1, h2, h3, h4⟩ := tk_bwd h
  obtain ⟨k1, k2, k3, k4⟩ := num_bwd s hb h1
  have hn : byt (numR s.1 s.2).2.1 := k4
  have hb1 : byt (tk (numR s.1 s.2).1 (numR s.1 s.2).2.1 (numR s.1 s.2).2.2).1 := by rw [h4] at hn; exact byt_left hn
  have hb2 : byt (tk (numR s.1 s.2).1 (numR s.1 s.2).2.1 (numR s.1 s.2).2.2).2.1 := by rw [h4] at hn; exact byt_right hn
  have e1 : tv s = strOfNums (tk (numR s.1 s.2).1 (numR s.1 s.2).2.1 (numR s.1 s.2).2.2).1 := rfl
  have e2 : (ts s).1 = (tk (numR s.1 s.2).1 (numR s.1 s.2).2.1 (numR s.1 s.2).2.2).2.1 := rfl
  have e3 : ((tv s).size : Int) = nv s := by rw [e1, strOfNums_size, h3]; rfl
  refine ⟨k1, ?_, by rw [e3]; exact k3.2, by rw [e2]; exact hb2⟩
  unfold txB
  rw [e3, e1, e2, bytesOf_strOfNums _ hb1, List.append_assoc, ← h4]
  exact k2
theorem mn_fwd (least : Int) (hl : 1 ≤ least) (n : Nat) (rest : List Int) (h : (n : Int) * least ≤ rest.length) (hn : (n : Int) < 9223372036854775808) : mnyR least (be8 n ++ rest) false = ((n : Int), rest, false) := by
  have e := num_fwd n rest ⟨by omega, hn⟩
  unfold nv ns at e
  obtain ⟨e1, e2⟩ := e
  simp only at e1 e2
  have e3 : numR (be8 n ++ rest) false = ((n : Int), rest, false) := Prod.ext e1 e2
  have hd : (n : Int) ≤ (rest.length : Int) / least := (Int.le_ediv_iff_mul_le (by omega)).2 h
  unfold mnyR
  rw [e3]
  simp only
  rw [if_neg (by omega)]
theorem mn_bwd (least : Int) (s : St) (hb : byt s.1) (h : (mnyR least s.1 s.2).2.2 = false) : s.2 = false ∧ s.1 = be8 (mnyR least s.1 s.2).1 ++ (mnyR least s.1 s.2).2.1 ∧ 0 ≤ (mnyR least s.1 s.2).1 ∧ (mnyR least s.1 s.2).1 < 9223372036854775808 ∧ byt (mnyR least s.1 s.2).2.1 := by
  unfold mnyR at h ⊢
  split at h
  · cases h
  · rename_i hc
    rw [if_neg hc]
    obtain ⟨k1, k2, k3, k4⟩ := num_bwd s hb h
    exact ⟨k1, k2, by omega, k3.2, k4⟩
theorem nvE {n : Int} (rest : List Int) (h : inR n) : nv (be8 n ++ rest, false) = n := (num_fwd n rest h).1
theorem nsE {n : Int} (rest : List Int) (h : inR n) : ns (be8 n ++ rest, false) = (rest, false) := (num_fwd n rest h).2
theorem bvE (t : Bool) (rest : List Int) : bv (trB t ++ rest, false) = t := (tr_fwd t rest).1
theorem bsE (t : Bool) (rest : List Int) : bs (trB t ++ rest, false) = (rest, false) := (tr_fwd t rest).2
theorem tvE {s : ByteArray} (rest : List Int) (h : (s.size : Int) < 9223372036854775808) : tv (txB s ++ rest, false) = s := (tx_fwd s rest h).1
theorem tsE {s : ByteArray} (rest : List Int) (h : (s.size : Int) < 9223372036854775808) : ts (txB s ++ rest, false) = (rest, false) := (tx_fwd s rest h).2
def okB (b : S50) : Prop := inR b.f0 ∧ inR b.f1 ∧ (b.f2.size : Int) < 9223372036854775808 ∧ inR b.f3 ∧ inR b.f4 ∧ inR b.f5 ∧ inR b.f6 ∧ inR b.f7 ∧ inR b.f8 ∧ inR b.f9
theorem bxB_eq (b : S50) (rest : List Int) : bxB b ++ rest = be8 b.f0 ++ (be8 b.f1 ++ (txB b.f2 ++ (be8 b.f3 ++ (be8 b.f4 ++ (be8 b.f5 ++ (be8 b.f6 ++ (be8 b.f7 ++ (be8 b.f8 ++ (be8 b.f9 ++ rest))))))))) := by
  simp only [bxB, boxBytes, txB, List.append_assoc]
theorem box_fwd (b : S50) (rest : List Int) (h : okB b) : bxV (bxB b ++ rest, false) = b ∧ bxS (bxB b ++ rest, false) = (rest, false) := by
  obtain ⟨h0, h1, h2, h3, h4, h5, h6, h7, h8, h9⟩ := h
  rw [bxB_eq]
  unfold bxV bxS bxS3
  simp only [nvE _ h0, nsE _ h0, nvE _ h1, nsE _ h1, tvE _ h2, tsE _ h2, nvE _ h3, nsE _ h3, nvE _ h4, nsE _ h4, nvE _ h5, nsE _ h5, nvE _ h6, nsE _ h6, nvE _ h7, nsE _ h7, nvE _ h8, nsE _ h8, nvE _ h9, nsE _ h9]
  exact ⟨trivial, trivial⟩
theorem box_bwd (s : St) (hb : byt s.1) (h : (bxS s).2 = false) : s.2 = false ∧ s.1 = bxB (bxV s) ++ (bxS s).1 ∧ okB (bxV s) ∧ byt (bxS s).1 ∧ 72 ≤ (bxB (bxV s)).length := by
  have key : ∀ t0 t1 t2 t3 t4 t5 t6 t7 t8 t9 t10 : St, t0 = s → t1 = ns t0 → t2 = ns t1 → t3 = ts t2 → t4 = ns t3 → t5 = ns t4 → t6 = ns t5 → t7 = ns t6 → t8 = ns t7 → t9 = ns t8 → t10 = ns t9 → byt t0.1 → t10.2 = false →
      t0.2 = false ∧ t0.1 = bxB ⟨nv t0, nv t1, tv t2, nv t3, nv t4, nv t5, nv t6, nv t7, nv t8, nv t9⟩ ++ t10.1 ∧ okB ⟨nv t0, nv t1, tv t2, nv t3, nv t4, nv t5, nv t6, nv t7, nv t8, nv t9⟩ ∧ byt t10.1 := by
    intro t0 t1 t2 t3 t4 t5 t6 t7 t8 t9 t10 _ e1 e2 e3 e4 e5 e6 e7 e8 e9 e10 hb0 h10
    have L : ∀ (a b : St), b = ns a → (byt a.1 → b.2 = false → a.2 = false ∧ a.1 = be8 (nv a) ++ b.1 ∧ inR (nv a) ∧ byt b.1) := by
      rintro a b rfl h1 h2; exact num_bwd a h1 h2
    have LT : byt t2.1 → t3.2 = false → t2.2 = false ∧ t2.1 = txB (tv t2) ++ t3.1 ∧ ((tv t2).size : Int) < 9223372036854775808 ∧ byt t3.1 := by
      subst e3; exact tx_bwd t2
    -- bad is never taken back
    have S : ∀ (a b : St), b = ns a → b.2 = false → a.2 = false := by
      rintro a b rfl h2; exact (tk_bwd (n := 8) (l := a.1) (bad := a.2) h2).1
    have ST : t3.2 = false → t2.2 = false := by
      intro h2
      rw [e3] at h2
      exact (tk_bwd (n := 8) (l := t2.1) (bad := t2.2) (tk_bwd h2).1).1
    have h9 := S _ _ e10 h10
    have h8 := S _ _ e9 h9
    have h7 := S _ _ e8 h8
    have h6 := S _ _ e7 h7
    have h5 := S _ _ e6 h6
    have h4 := S _ _ e5 h5
    have h3 := S _ _ e4 h4
    have h2 := ST h3
    have h1 := S _ _ e2 h2
    obtain ⟨a0, b0, c0, d0⟩ := L _ _ e1 hb0 h1
    obtain ⟨a1, b1, c1, d1⟩ := L _ _ e2 d0 h2
    obtain ⟨a2, b2, c2, d2⟩ := LT d1 h3
    obtain ⟨a3, b3, c3, d3⟩ := L _ _ e4 d2 h4
    obtain ⟨a4, b4, c4, d4⟩ := L _ _ e5 d3 h5
    obtain ⟨a5, b5, c5, d5⟩ := L _ _ e6 d4 h6
    obtain ⟨a6, b6, c6, d6⟩ := L _ _ e7 d5 h7
    obtain ⟨a7, b7, c7, d7⟩ := L _ _ e8 d6 h8
    obtain ⟨a8, b8, c8, d8⟩ := L _ _ e9 d7 h9
    obtain ⟨a9, b9, c9, d9⟩ := L _ _ e10 d8 h10
    refine ⟨a0, ?_, ⟨c0, c1, c2, c3, c4, c5, c6, c7, c8, c9⟩, d9⟩
    rw [bxB_eq, ← b9, ← b8, ← b7, ← b6, ← b5, ← b4, ← b3, ← b2, ← b1, ← b0]
  obtain ⟨k1, k2, k3, k4⟩ := key s _ _ _ _ _ _ _ _ _ _ rfl rfl rfl rfl rfl rfl rfl rfl rfl rfl rfl hb h
  exact ⟨k1, k2, k3, k4, by rw [bxB_length]; omega⟩
theorem bxs_fwd : ∀ (l : List S50) (rest : List Int), (∀ b ∈ l, okB b) → bxsR l.length (bxsB l ++ rest, false) = (l, (rest, false))
  | [], rest, _ => rfl
  | b :: l, rest, h => by
    have e := box_fwd b (bxsB l ++ rest) (h b List.mem_cons_self)
    have e0 : bxsB (b :: l) ++ rest = bxB b ++ (bxsB l ++ rest) := by simp [bxsB]
    have ih := bxs_fwd l rest (fun x hx => h x (List.mem_cons_of_mem _ hx))
    rw [e0]
    simp only [List.length_cons, bxsR, Bool.false_eq_true, if_false]
    rw [e.1, e.2, ih]
theorem bxs_bwd : ∀ (n : Nat) (s : St), byt s.1 → (bxsR n s).2.2 = false → s.2 = false ∧ s.1 = bxsB (bxsR n s).1 ++ (bxsR n s).2.1 ∧ (∀ b ∈ (bxsR n s).1, okB b) ∧ byt (bxsR n s).2.1 ∧ (bxsR n s).1.length = n
  | 0, s, hb, h => ⟨h, rfl, (fun b hb => nomatch hb), hb, rfl⟩
  | n + 1, s, hb, h => by
    unfold bxsR at h ⊢
    split at h
    · rename_i h2; rw [h2] at h; cases h
    · rename_i h2
      rw [if_neg h2]
      simp only at h ⊢
      have h2' : s.2 = false := by simpa using h2
      cases hx : (bxS s).2 with
      | true =>
        exfalso
        have : (bxsR n (bxS s)).2.2 = true := by cases n <;> simp [bxsR, hx]
        rw [this] at h; cases h
      | false =>
        obtain ⟨k1, k2, k3, k4, k5⟩ := box_bwd s hb hx
        obtain ⟨j1, j2, j3, j4, j5⟩ := bxs_bwd n (bxS s) k4 h
        refine ⟨k1, ?_, ?_, j4, by simp [j5]⟩
        · conv => lhs; rw [k2, j2]
          simp [bxsB]
        · intro b hb
          rcases List.mem_cons.1 hb with rfl | hb
          · exact k3
          · exact j3 b hb
theorem flat_le {α : Type} (f : α → List Int) (c : Nat) (h : ∀ x, c ≤ (f x).length) (l : List α) : l.length * c ≤ (l.flatMap f).length := by
  induction l with
  | nil => simp
  | cons x l ih => have := h x; simp only [List.flatMap_cons, List.length_append, List.length_cons, Nat.succ_mul]; omega
def okR (r : S48) : Prop := inR r.f0 ∧ (r.f3.length : Int) < 9223372036854775808 ∧ ∀ b ∈ r.f3, okB b
theorem rwB_eq (r : S48) (rest : List Int) : rwB r ++ rest = be8 r.f0 ++ (trB r.f1 ++ (trB r.f2 ++ (be8 r.f3.length ++ (bxsB r.f3 ++ rest)))) := by
  simp only [rwB, List.append_assoc]
theorem row_fwd (r : S48) (rest : List Int) (h : okR r) : rwV (rwB r ++ rest, false) = r ∧ rwE (rwB r ++ rest, false) = (rest, false) := by
  obtain ⟨h0, h1, h2⟩ := h
  have hm : mnyR 72 (be8 r.f3.length ++ (bxsB r.f3 ++ rest)) false = ((r.f3.length : Int), bxsB r.f3 ++ rest, false) := by
    refine mn_fwd 72 (by omega) _ _ ?_ h1
    have := flat_le bxB 72 (fun b => by rw [bxB_length]; omega) r.f3
    simp only [List.length_append, bxsB]
    omega
  have hS : rwS (rwB r ++ rest, false) = (be8 r.f3.length ++ (bxsB r.f3 ++ rest), false) := by
    rw [rwB_eq]
    unfold rwS
    simp only [nsE _ h0, bsE]
  have hM : rwM (rwB r ++ rest, false) = ((r.f3.length : Int), bxsB r.f3 ++ rest, false) := by unfold rwM; rw [hS]; exact hm
  have hx := bxs_fwd r.f3 rest h2
  unfold rwV rwE
  rw [hM]
  simp only [Int.toNat_natCast, hx]
  rw [rwB_eq]
  simp only [nvE _ h0, nsE _ h0, bsE, bvE]
  exact ⟨trivial, trivial⟩
theorem row_bwd (s : St) (hb : byt s.1) (h : (rwE s).2 = false) : s.2 = false ∧ s.1 = rwB (rwV s) ++ (rwE s).1 ∧ okR (rwV s) ∧ byt (rwE s).1 ∧ 18 ≤ (rwB (rwV s)).length := by
  have key : ∀ (t1 t2 t3 : St) (m : Int × St), t1 = ns s → t2 = bs t1 → t3 = bs t2 → m = mnyR 72 t3.1 t3.2 → (bxsR m.1.toNat m.2).2.2 = false →
      s.2 = false ∧ s.1 = rwB ⟨nv s, bv t1, bv t2, (bxsR m.1.toNat m.2).1⟩ ++ (bxsR m.1.toNat m.2).2.1 ∧ okR ⟨nv s, bv t1, bv t2, (bxsR m.1.toNat m.2).1⟩ ∧ byt (bxsR m.1.toNat m.2).2.1 := by
    intro t1 t2 t3 m e1 e2 e3 em h
    have B1 : ∀ n s, (bxsR n s).2.2 = false → s.2 = false := by
      intro n s h
      cases n with
      | zero => exact h
      | succ n => cases hs : s.2 with
        | false => rfl
        | true => simp [bxsR, hs] at h
    have hm := B1 _ _ h
    have TS : ∀ (a b : St), b = bs a → b.2 = false → a.2 = false := by
      rintro a b rfl h2
      unfold bs truR at h2
      split at h2
      · exact (tk_bwd (n := 1) (l := a.1) (bad := a.2) h2).1
      · simp only [Bool.or_eq_false_iff] at h2
        exact (tk_bwd (n := 1) (l := a.1) (bad := a.2) h2.1).1
    have MS : m.2.2 = false → t3.2 = false := by
      intro h2
      rw [em] at h2
      unfold mnyR at h2
      split at h2
      · cases h2
      · exact (tk_bwd (n := 8) (l := t3.1) (bad := t3.2) h2).1
    have h3 := MS hm
    have h2 := TS _ _ e3 h3
    have h1 := TS _ _ e2 h2
    obtain ⟨a0, b0, c0, d0⟩ := num_bwd s hb (by rw [← e1]; exact h1)
    rw [← e1] at b0 d0
    obtain ⟨a1, b1, d1⟩ := tr_bwd t1 d0 (by rw [← e2]; exact h2)
    rw [← e2] at b1 d1
    obtain ⟨a2, b2, d2⟩ := tr_bwd t2 d1 (by rw [← e3]; exact h3)
    rw [← e3] at b2 d2
    obtain ⟨a3, b3, c3, c3', d3⟩ := mn_bwd 72 t3 d2 (by rw [← em]; exact hm)
    rw [← em] at b3 c3 c3' d3
    obtain ⟨a4, b4, c4, d4, e4⟩ := bxs_bwd m.1.toNat m.2 d3 h
    have e5 : (((bxsR m.1.toNat m.2).1.length : Nat) : Int) = m.1 := by rw [e4]; omega
    refine ⟨a0, ?_, ⟨c0, by simp only; rw [e5]; exact c3', c4⟩, d4⟩
    rw [rwB_eq]
    simp only [e5]
    rw [← b4, ← b3, ← b2, ← b1, ← b0]
  obtain ⟨k1, k2, k3, k4⟩ := key _ _ _ _ rfl rfl rfl rfl h
  exact ⟨k1, k2, k3, k4, by rw [rwB_length]; omega⟩
theorem rws_fwd : ∀ (l : List S48) (rest : List Int), (∀ b ∈ l, okR b) → rwsR l.length (rwsB l ++ rest, false) = (l, (rest, false))
  | [], rest, _ => rfl
  | b :: l, rest, h => by
    have e := row_fwd b (rwsB l ++ rest) (h b List.mem_cons_self)
    have e0 : rwsB (b :: l) ++ rest = rwB b ++ (rwsB l ++ rest) := by simp [rwsB]
    have ih := rws_fwd l rest (fun x hx => h x (List.mem_cons_of_mem _ hx))
    rw [e0]
    simp only [List.length_cons, rwsR, Bool.false_eq_true, if_false]
    rw [e.1, e.2, ih]
theorem rws_bwd : ∀ (n : Nat) (s : St), byt s.1 → (rwsR n s).2.2 = false → s.2 = false ∧ s.1 = rwsB (rwsR n s).1 ++ (rwsR n s).2.1 ∧ (∀ b ∈ (rwsR n s).1, okR b) ∧ byt (rwsR n s).2.1 ∧ (rwsR n s).1.length = n
  | 0, s, hb, h => ⟨h, rfl, (fun b hb => nomatch hb), hb, rfl⟩
  | n + 1, s, hb, h => by
    unfold rwsR at h ⊢
    split at h
    · rename_i h2; rw [h2] at h; cases h
    · rename_i h2
      rw [if_neg h2]
      simp only at h ⊢
      have h2' : s.2 = false := by simpa using h2
      cases hx : (rwE s).2 with
      | true =>
        exfalso
        have : (rwsR n (rwE s)).2.2 = true := by cases n <;> simp [rwsR, hx]
        rw [this] at h; cases h
      | false =>
        obtain ⟨k1, k2, k3, k4, k5⟩ := row_bwd s hb hx
        obtain ⟨j1, j2, j3, j4, j5⟩ := rws_bwd n (rwE s) k4 h
        refine ⟨k1, ?_, ?_, j4, by simp [j5]⟩
        · conv => lhs; rw [k2, j2]
          simp [rwsB]
        · intro b hb
          rcases List.mem_cons.1 hb with rfl | hb
          · exact k3
          · exact j3 b hb
def okP (p : S45) : Prop := inR p.f0 ∧ inR p.f1 ∧ (p.f3.length : Int) < 9223372036854775808 ∧ ∀ b ∈ p.f3, okR b
theorem pgB_eq (p : S45) (rest : List Int) : pgB p ++ rest = be8 p.f0 ++ (be8 p.f1 ++ (trB p.f2 ++ (be8 p.f3.length ++ (rwsB p.f3 ++ rest)))) := by
  simp only [pgB, List.append_assoc]
theorem page_fwd (p : S45) (rest : List Int) (h : okP p) : pgV (pgB p ++ rest, false) = p ∧ pgE (pgB p ++ rest, false) = (rest, false) := by
  obtain ⟨h0, h1, h2, h3⟩ := h
  have hm : mnyR 18 (be8 p.f3.length ++ (rwsB p.f3 ++ rest)) false = ((p.f3.length : Int), rwsB p.f3 ++ rest, false) := by
    refine mn_fwd 18 (by omega) _ _ ?_ h2
    have := flat_le rwB 18 (fun b => by rw [rwB_length]; omega) p.f3
    simp only [List.length_append, rwsB]
    omega
  have hS : pgS (pgB p ++ rest, false) = (be8 p.f3.length ++ (rwsB p.f3 ++ rest), false) := by
    rw [pgB_eq]
    unfold pgS
    simp only [nsE _ h0, nsE _ h1, bsE]
  have hM : pgM (pgB p ++ rest, false) = ((p.f3.length : Int), rwsB p.f3 ++ rest, false) := by unfold pgM; rw [hS]; exact hm
  have hx := rws_fwd p.f3 rest h3
  unfold pgV pgE
  rw [hM]
  simp only [Int.toNat_natCast, hx]
  rw [pgB_eq]
  simp only [nvE _ h0, nsE _ h0, nvE _ h1, nsE _ h1, bsE, bvE]
  exact ⟨trivial, trivial⟩
theorem page_bwd (s : St) (hb : byt s.1) (h : (pgE s).2 = false) : s.2 = false ∧ s.1 = pgB (pgV s) ++ (pgE s).1 ∧ okP (pgV s) ∧ byt (pgE s).1 ∧ 25 ≤ (pgB (pgV s)).length := by
  have key : ∀ (t1 t2 t3 : St) (m : Int × St), t1 = ns s → t2 = ns t1 → t3 = bs t2 → m = mnyR 18 t3.1 t3.2 → (rwsR m.1.toNat m.2).2.2 = false →
      s.2 = false ∧ s.1 = pgB ⟨nv s, nv t1, bv t2, (rwsR m.1.toNat m.2).1⟩ ++ (rwsR m.1.toNat m.2).2.1 ∧ okP ⟨nv s, nv t1, bv t2, (rwsR m.1.toNat m.2).1⟩ ∧ byt (rwsR m.1.toNat m.2).2.1 := by
    intro t1 t2 t3 m e1 e2 e3 em h
    have B1 : ∀ n s, (rwsR n s).2.2 = false → s.2 = false := by
      intro n s h
      cases n with
      | zero => exact h
      | succ n => cases hs : s.2 with
        | false => rfl
        | true => simp [rwsR, hs] at h
    have hm := B1 _ _ h
    have TS : ∀ (a b : St), b = bs a → b.2 = false → a.2 = false := by
      rintro a b rfl h2
      unfold bs truR at h2
      split at h2
      · exact (tk_bwd (n := 1) (l := a.1) (bad := a.2) h2).1
      · simp only [Bool.or_eq_false_iff] at h2
        exact (tk_bwd (n := 1) (l := a.1) (bad := a.2) h2.1).1
    have S : ∀ (a b : St), b = ns a → b.2 = false → a.2 = false := by
      rintro a b rfl h2; exact (tk_bwd (n := 8) (l := a.1) (bad := a.2) h2).1
    have MS : m.2.2 = false → t3.2 = false := by
      intro h2
      rw [em] at h2
      unfold mnyR at h2
      split at h2
      · cases h2
      · exact (tk_bwd (n := 8) (l := t3.1) (bad := t3.2) h2).1
    have h3 := MS hm
    have h2 := TS _ _ e3 h3
    have h1 := S _ _ e2 h2
    obtain ⟨a0, b0, c0, d0⟩ := num_bwd s hb (by rw [← e1]; exact h1)
    rw [← e1] at b0 d0
    obtain ⟨a1, b1, c1, d1⟩ := num_bwd t1 d0 (by rw [← e2]; exact h2)
    rw [← e2] at b1 d1
    obtain ⟨a2, b2, d2⟩ := tr_bwd t2 d1 (by rw [← e3]; exact h3)
    rw [← e3] at b2 d2
    obtain ⟨a3, b3, c3, c3', d3⟩ := mn_bwd 18 t3 d2 (by rw [← em]; exact hm)
    rw [← em] at b3 c3 c3' d3
    obtain ⟨a4, b4, c4, d4, e4⟩ := rws_bwd m.1.toNat m.2 d3 h
    have e5 : (((rwsR m.1.toNat m.2).1.length : Nat) : Int) = m.1 := by rw [e4]; omega
    refine ⟨a0, ?_, ⟨c0, c1, by simp only; rw [e5]; exact c3', c4⟩, d4⟩
    rw [pgB_eq]
    simp only [e5]
    rw [← b4, ← b3, ← b2, ← b1, ← b0]
  obtain ⟨k1, k2, k3, k4⟩ := key _ _ _ _ rfl rfl rfl rfl h
  exact ⟨k1, k2, k3, k4, by rw [pgB_length]; omega⟩
theorem pgs_fwd : ∀ (l : List S45) (rest : List Int), (∀ b ∈ l, okP b) → pgsR l.length (pgsB l ++ rest, false) = (l, (rest, false))
  | [], rest, _ => rfl
  | b :: l, rest, h => by
    have e := page_fwd b (pgsB l ++ rest) (h b List.mem_cons_self)
    have e0 : pgsB (b :: l) ++ rest = pgB b ++ (pgsB l ++ rest) := by simp [pgsB]
    have ih := pgs_fwd l rest (fun x hx => h x (List.mem_cons_of_mem _ hx))
    rw [e0]
    simp only [List.length_cons, pgsR, Bool.false_eq_true, if_false]
    rw [e.1, e.2, ih]
theorem pgs_bwd : ∀ (n : Nat) (s : St), byt s.1 → (pgsR n s).2.2 = false → s.2 = false ∧ s.1 = pgsB (pgsR n s).1 ++ (pgsR n s).2.1 ∧ (∀ b ∈ (pgsR n s).1, okP b) ∧ byt (pgsR n s).2.1 ∧ (pgsR n s).1.length = n
  | 0, s, hb, h => ⟨h, rfl, (fun b hb => nomatch hb), hb, rfl⟩
  | n + 1, s, hb, h => by
    unfold pgsR at h ⊢
    split at h
    · rename_i h2; rw [h2] at h; cases h
    · rename_i h2
      rw [if_neg h2]
      simp only at h ⊢
      have h2' : s.2 = false := by simpa using h2
      cases hx : (pgE s).2 with
      | true =>
        exfalso
        have : (pgsR n (pgE s)).2.2 = true := by cases n <;> simp [pgsR, hx]
        rw [this] at h; cases h
      | false =>
        obtain ⟨k1, k2, k3, k4, k5⟩ := page_bwd s hb hx
        obtain ⟨j1, j2, j3, j4, j5⟩ := pgs_bwd n (pgE s) k4 h
        refine ⟨k1, ?_, ?_, j4, by simp [j5]⟩
        · conv => lhs; rw [k2, j2]
          simp [pgsB]
        · intro b hb
          rcases List.mem_cons.1 hb with rfl | hb
          · exact k3
          · exact j3 b hb
def inner (a0 a1 a2 a3 : Int) (l : List S45) : List Int := be8 a0 ++ (be8 a1 ++ (be8 a2 ++ (be8 a3 ++ (be8 l.length ++ pgsB l))))
theorem bodyB_eq (a0 a1 a2 a3 : Int) (l : List S45) : bodyB a0 a1 a2 a3 l = markB ++ inner a0 a1 a2 a3 l := by simp [bodyB, headB, inner]
def okA (a0 a1 a2 a3 : Int) (l : List S45) : Prop := inR a0 ∧ inR a1 ∧ inR a2 ∧ inR a3 ∧ (l.length : Int) < 9223372036854775808 ∧ ∀ p ∈ l, okP p
theorem body_fwd (a0 a1 a2 a3 : Int) (l : List S45) (rest : List Int) (h : okA a0 a1 a2 a3 l) (s : St) (hs : s = (inner a0 a1 a2 a3 l ++ rest, false)) :
    nv s = a0 ∧ nv (ns s) = a1 ∧ nv (ns (ns s)) = a2 ∧ nv (ns (ns (ns s))) = a3 ∧
    (mnyR 25 (ns (ns (ns (ns s)))).1 (ns (ns (ns (ns s)))).2) = ((l.length : Int), pgsB l ++ rest, false) ∧ pgsR l.length (pgsB l ++ rest, false) = (l, rest, false) := by
  obtain ⟨h0, h1, h2, h3, h4, h5⟩ := h
  have e : inner a0 a1 a2 a3 l ++ rest = be8 a0 ++ (be8 a1 ++ (be8 a2 ++ (be8 a3 ++ (be8 l.length ++ (pgsB l ++ rest))))) := by simp [inner]
  rw [e] at hs
  subst hs
  simp only [nvE _ h0, nsE _ h0, nvE _ h1, nsE _ h1, nvE _ h2, nsE _ h2, nvE _ h3, nsE _ h3]
  refine ⟨trivial, trivial, trivial, trivial, ?_, pgs_fwd l rest h5⟩
  refine mn_fwd 25 (by omega) _ _ ?_ h4
  have := flat_le pgB 25 (fun b => by rw [pgB_length]; omega) l
  simp only [List.length_append, pgsB]
  omega
theorem body_bwd (s : St) (hb : byt s.1) (m : Int × St) (em : m = mnyR 25 (ns (ns (ns (ns s)))).1 (ns (ns (ns (ns s)))).2) (h : (pgsR m.1.toNat m.2).2.2 = false) :
    s.2 = false ∧ s.1 = inner (nv s) (nv (ns s)) (nv (ns (ns s))) (nv (ns (ns (ns s)))) (pgsR m.1.toNat m.2).1 ++ (pgsR m.1.toNat m.2).2.1 ∧
    okA (nv s) (nv (ns s)) (nv (ns (ns s))) (nv (ns (ns (ns s)))) (pgsR m.1.toNat m.2).1 := by
  have key : ∀ (t1 t2 t3 t4 : St), t1 = ns s → t2 = ns t1 → t3 = ns t2 → t4 = ns t3 → m = mnyR 25 t4.1 t4.2 →
      s.2 = false ∧ s.1 = inner (nv s) (nv t1) (nv t2) (nv t3) (pgsR m.1.toNat m.2).1 ++ (pgsR m.1.toNat m.2).2.1 ∧ okA (nv s) (nv t1) (nv t2) (nv t3) (pgsR m.1.toNat m.2).1 := by
    intro t1 t2 t3 t4 e1 e2 e3 e4 em
    have B1 : ∀ n s, (pgsR n s).2.2 = false → s.2 = false := by
      intro n s h
      cases n with
      | zero => exact h
      | succ n => cases hs : s.2 with
        | false => rfl
        | true => simp [pgsR, hs] at h
    have hm := B1 _ _ h
    have S : ∀ (a b : St), b = ns a → b.2 = false → a.2 = false := by
      rintro a b rfl h2; exact (tk_bwd (n := 8) (l := a.1) (bad := a.2) h2).1
    have MS : m.2.2 = false → t4.2 = false := by
      intro h2
      rw [em] at h2
      unfold mnyR at h2
      split at h2
      · cases h2
      · exact (tk_bwd (n := 8) (l := t4.1) (bad := t4.2) h2).1
    have h4 := MS hm
    have h3 := S _ _ e4 h4
    have h2 := S _ _ e3 h3
    have h1 := S _ _ e2 h2
    obtain ⟨a0, b0, c0, d0⟩ := num_bwd s hb (by rw [← e1]; exact h1)
    rw [← e1] at b0 d0
    obtain ⟨a1, b1, c1, d1⟩ := num_bwd t1 d0 (by rw [← e2]; exact h2)
    rw [← e2] at b1 d1
    obtain ⟨a2, b2, c2, d2⟩ := num_bwd t2 d1 (by rw [← e3]; exact h3)
    rw [← e3] at b2 d2
    obtain ⟨a3, b3, c3, d3⟩ := num_bwd t3 d2 (by rw [← e4]; exact h4)
    rw [← e4] at b3 d3
    obtain ⟨a4, b4, c4, c4', d4⟩ := mn_bwd 25 t4 d3 (by rw [← em]; exact hm)
    rw [← em] at b4 c4 c4' d4
    obtain ⟨a5, b5, c5, d5, e5⟩ := pgs_bwd m.1.toNat m.2 d4 h
    have e6 : (((pgsR m.1.toNat m.2).1.length : Nat) : Int) = m.1 := by rw [e5]; omega
    refine ⟨a0, ?_, ⟨c0, c1, c2, c3, by rw [e6]; exact c4', c5⟩⟩
    unfold inner
    simp only [List.append_assoc, e6]
    rw [← b5, ← b4, ← b3, ← b2, ← b1, ← b0]
  exact key _ _ _ _ rfl rfl rfl rfl em
theorem byt_trB (t : Bool) : byt (trB t) := fun x hx => by
  simp only [trB, List.mem_singleton] at hx
  subst hx
  cases t <;> simp
theorem byt_flat {α : Type} (f : α → List Int) (h : ∀ x, byt (f x)) (l : List α) : byt (l.flatMap f) := fun x hx => by
  obtain ⟨a, _, ha⟩ := List.mem_flatMap.1 hx
  exact h a x ha
theorem byt_bxB (b : S50) : byt (bxB b) := by
  have h := bxB_eq b []
  rw [List.append_nil] at h
  rw [h]
  repeat (first | exact byt_be8 _ | refine byt_app (byt_be8 _) ?_ | refine byt_app (byt_app (byt_be8 _) (byt_bytesOf _)) ?_ | exact fun x hx => nomatch hx)
theorem byt_rwB (r : S48) : byt (rwB r) := byt_app (byt_be8 _) (byt_app (byt_trB _) (byt_app (byt_trB _) (byt_app (byt_be8 _) (byt_flat bxB byt_bxB _))))
theorem byt_pgB (p : S45) : byt (pgB p) := byt_app (byt_be8 _) (byt_app (byt_be8 _) (byt_app (byt_trB _) (byt_app (byt_be8 _) (byt_flat rwB byt_rwB _))))
theorem byt_inner (a0 a1 a2 a3 : Int) (l : List S45) : byt (inner a0 a1 a2 a3 l) :=
  byt_app (byt_be8 _) (byt_app (byt_be8 _) (byt_app (byt_be8 _) (byt_app (byt_be8 _) (byt_app (byt_be8 _) (byt_flat pgB byt_pgB _)))))
theorem byt_markB : byt markB := by
  intro x hx
  simp only [markB, List.mem_cons, List.not_mem_nil, or_false] at hx
  omega
theorem byt_bodyB (a0 a1 a2 a3 : Int) (l : List S45) : byt (bodyB a0 a1 a2 a3 l) := by rw [bodyB_eq]; exact byt_app byt_markB (byt_inner _ _ _ _ _)
theorem putB_length (a0 a1 a2 a3 : Int) (l : List S45) : (putB a0 a1 a2 a3 l).length = (bodyB a0 a1 a2 a3 l).length + 8 := by simp [putB, be8_length]
theorem bodyB_length (a0 a1 a2 a3 : Int) (l : List S45) : (bodyB a0 a1 a2 a3 l).length = 48 + (pgsB l).length := by simp only [bodyB, List.length_append, headB_length]
theorem markB_bytes : markB = bytesOf ⟨#[112, 108, 97, 116, 101, 110, 65, 49]⟩ := by decide
theorem markOk_of {b : List Int} (h : b.take 8 = markB) : markOk b = true := by
  unfold markOk
  rw [h]
  kernel_rfl
theorem mark_of {b : List Int} (hb : byt b) (h : markOk b = true) : b.take 8 = markB := by
  unfold markOk at h
  have h1 : byt (b.take 8) := fun x hx => hb x (List.mem_of_mem_take hx)
  have h2 := bytesOf_strOfNums _ h1
  have h3 : (strOfNums (b.take 8)).toList = [112, 108, 97, 116, 101, 110, 65, 49] := by simpa using h
  have h4 : strOfNums (b.take 8) = ⟨#[112, 108, 97, 116, 101, 110, 65, 49]⟩ := by
    have e : (strOfNums (b.take 8)).data.toList = [112, 108, 97, 116, 101, 110, 65, 49] := by rw [← h3]; exact (ByteArray.toList_eq _).symm
    have e2 : (strOfNums (b.take 8)).data = #[112, 108, 97, 116, 101, 110, 65, 49] := Array.ext' e
    exact congrArg ByteArray.mk e2
  rw [← h2, h4]
  exact markB_bytes.symm
theorem get_put (a0 a1 a2 a3 : Int) (l : List S45) (h : okA a0 a1 a2 a3 l) (h2 : 0 ≤ a2) (h3 : 0 ≤ a3) (h0 : a0 = 0 ∨ l.length = 0) :
    getF (putB a0 a1 a2 a3 l) = (a0, a1, a2, a3, l, 0) := by
  have hlen := putB_length a0 a1 a2 a3 l
  have hbl := bodyB_length a0 a1 a2 a3 l
  have ht : (putB a0 a1 a2 a3 l).take ((putB a0 a1 a2 a3 l).length - 8) = bodyB a0 a1 a2 a3 l := by
    rw [hlen, Nat.add_sub_cancel]; unfold putB; simp
  have hd : (putB a0 a1 a2 a3 l).drop ((putB a0 a1 a2 a3 l).length - 8) = be8 (wrap64 (fnvs (bodyB a0 a1 a2 a3 l))) := by
    rw [hlen, Nat.add_sub_cancel]; unfold putB; simp
  have hg : g0 (putB a0 a1 a2 a3 l) = (inner a0 a1 a2 a3 l ++ [], false) := by
    unfold g0; rw [ht, bodyB_eq]; simp [markB]
  obtain ⟨e0, e1, e2, e3, e4, e5⟩ := body_fwd a0 a1 a2 a3 l [] h _ hg
  have hM : gM (putB a0 a1 a2 a3 l) = ((l.length : Int), pgsB l ++ [], false) := e4
  have hP : gP (putB a0 a1 a2 a3 l) = l := by unfold gP; rw [hM]; simp only [Int.toNat_natCast]; rw [e5]
  have hE : gE (putB a0 a1 a2 a3 l) = ([], false) := by unfold gE; rw [hM]; simp only [Int.toNat_natCast]; rw [e5]
  rw [getF_yes]
  · rw [e0, e1, e2, e3, hP]
  · refine ⟨by omega, markOk_of (by unfold putB; rw [bodyB_eq]; simp [markB]), ?_, ?_⟩
    · unfold sumOk
      rw [ht, hd]
      have := (num_fwd _ [] (inR_wrap (fnvs (bodyB a0 a1 a2 a3 l)))).1
      rw [List.append_nil] at this
      unfold nv at this
      simp only at this
      rw [this]
      simp
    · unfold gOk
      rw [hE, hP, e0, e2, e3]
      have d2 : decide (a2 < 0) = false := by simpa using h2
      have d3 : decide (a3 < 0) = false := by simpa using h3
      rw [d2, d3]
      rcases h0 with rfl | h0
      · simp
      · simp [h0]
theorem put_get {b : List Int} (hb : byt b) (h : 56 ≤ b.length ∧ markOk b = true ∧ sumOk b = true ∧ gOk b = true) :
    b = putB (nv (g0 b)) (nv (ns (g0 b))) (nv (ns (ns (g0 b)))) (nv (ns (ns (ns (g0 b))))) (gP b) ∧ okA (nv (g0 b)) (nv (ns (g0 b))) (nv (ns (ns (g0 b)))) (nv (ns (ns (ns (g0 b))))) (gP b) ∧
    0 ≤ nv (ns (ns (g0 b))) ∧ 0 ≤ nv (ns (ns (ns (g0 b)))) ∧ (nv (g0 b) = 0 ∨ (gP b).length = 0) := by
  obtain ⟨h1, h2, h3, h4⟩ := h
  have hm := mark_of hb h2
  unfold gOk at h4
  simp only [Bool.not_eq_true', Bool.or_eq_false_iff, decide_eq_false_iff_not, Bool.and_eq_false_iff] at h4
  obtain ⟨⟨⟨⟨k1, k2⟩, k3⟩, k4⟩, k5⟩ := h4
  have hbt : byt (b.take (b.length - 8)) := fun x hx => hb x (List.mem_of_mem_take hx)
  have hbd : byt (b.drop (b.length - 8)) := fun x hx => hb x (List.mem_of_mem_drop hx)
  have hg0 : byt (g0 b).1 := fun x hx => hbt x (List.mem_of_mem_drop hx)
  obtain ⟨j1, j2, j3⟩ := body_bwd (g0 b) hg0 (gM b) rfl k1
  have hE : (pgsR (gM b).1.toNat (gM b).2).2.1 = [] := by
    have : (gE b).1.length = 0 := by omega
    exact List.eq_nil_of_length_eq_zero this
  rw [hE, List.append_nil] at j2
  have hbody : b.take (b.length - 8) = bodyB (nv (g0 b)) (nv (ns (g0 b))) (nv (ns (ns (g0 b)))) (nv (ns (ns (ns (g0 b))))) (gP b) := by
    rw [bodyB_eq]
    have e : (b.take (b.length - 8)) = (b.take (b.length - 8)).take 8 ++ (b.take (b.length - 8)).drop 8 := (List.take_append_drop 8 _).symm
    rw [e, List.take_take, Nat.min_eq_left (by omega), hm]
    congr 1
  have hsum : b.drop (b.length - 8) = be8 (wrap64 (fnvs (b.take (b.length - 8)))) := by
    unfold sumOk at h3
    have hl : (b.drop (b.length - 8)).length = 8 := by simp; omega
    obtain ⟨q1, q2, q3, q4⟩ := num_bwd (b.drop (b.length - 8), false) hbd (by
      unfold ns numR tk
      rw [if_neg (by simp; omega)])
    have hr : (ns (b.drop (b.length - 8), false)).1 = [] := by
      have := congrArg List.length q2
      simp only [List.length_append, be8_length, hl] at this
      exact List.eq_nil_of_length_eq_zero (by omega)
    rw [hr, List.append_nil] at q2
    have e : nv (b.drop (b.length - 8), false) = wrap64 (fnvs (b.take (b.length - 8))) := by
      show (numR (b.drop (b.length - 8)) false).1 = _
      simpa using h3
    rw [e] at q2
    exact q2
  refine ⟨?_, j3, by omega, by omega, ?_⟩
  · conv => lhs; rw [← List.take_append_drop (b.length - 8) b]
    rw [hsum, hbody]
    rfl
  · rcases k5 with k5 | k5
    · left; simpa using k5
    · right; omega
end Go.Proofs.Ytihiapjfdgoomaa.A
namespace Go.Proofs.Ytihiapjfdgoomaa.P
open Go.RowKit Go.Proofs.YtihiapjfdgoomaaW.PrintWords Go.Proofs.YtihiapjfdgoomaaW.PrintLast Go.Proofs.YtihiapjfdgoomaaW.PrintMore
attribute [local go_sem] max2_int min2_int max_two min_two max_three min_three max_four min_four   -- for this text's walks alone
set_option linter.unusedVariables false
set_option linter.unusedSimpArgs false
def KC78 (w0 : World) (A : Option Addr) (c : Nat) (bs : List Int) : Prop := Kd.C (Kd.int .u8) w0 A bs.length bs ∧ bs.length ≤ c
def IsS78 (w0 W : World) (g : Nat) (f0 : List Int) (f1 : Int) (f2 : Bool) : Prop := ∃ A0 c0, W.heap[g]? = some (.cells #[.slice A0 f0.length c0, .int .i64 f1, .bool f2] 78 (0, 0)) ∧ w0.heap.size ≤ g ∧ KC78 w0 A0 c0 f0
theorem IsS78.grown {w0 W : World} {g : Nat} {f0 : List Int} {f1 : Int} {f2 : Bool} {W1 : World} {row : Option Nat} (h : IsS78 w0 W g f0 f1 f2) (hw : W.grownBy W1 row) (hne : some g ≠ row) : IsS78 w0 W1 g f0 f1 f2 := by
  obtain ⟨A0, c0, hb, hg, hr0⟩ := h
  exact ⟨A0, c0, blk_grown hb hw hne, hg, hr0⟩
theorem IsS78.own_neN {w0 W : World} {g : Nat} {f0 : List Int} {f1 : Int} {f2 : Bool} {α : Type} {d : Kd α} {e : Nat} {base : Nat} {ok : Nat → Prop} {v : Value} {xs : List α} (h : IsS78 w0 W g f0 f1 f2) (ho : Kd.N d e W base ok v xs) (ht : e ≠ 78) : some g ≠ v.ownBlock := by
  obtain ⟨A0, c0, hb, hg, hr0⟩ := h
  exact Kd.N_ne ho hb ht
theorem IsS78.fresh {w0 W : World} {g : Nat} {f0 : List Int} {f1 : Int} {f2 : Bool} (h : IsS78 w0 W g f0 f1 f2) : ∀ k, W.heap.size ≤ k → k ≠ g := by
  obtain ⟨A0, c0, hb, hg, hr0⟩ := h
  exact Kd.freshB hb
theorem IsS78.kept {w0 W : World} {g : Nat} {f0 : List Int} {f1 : Int} {f2 : Bool} {W1 : World} {S : Nat → Prop} (h : IsS78 w0 W g f0 f1 f2) (hk : Kept W W1 S) (hne : ¬ S g) : IsS78 w0 W1 g f0 f1 f2 := by
  obtain ⟨A0, c0, hb, hg, hr0⟩ := h
  exact ⟨A0, c0, blk_kept hb hk hne, hg, hr0⟩
theorem IsS78.below {w0 W : World} {g : Nat} {f0 : List Int} {f1 : Int} {f2 : Bool} {W1 : World} (h : IsS78 w0 W g f0 f1 f2) (hw : Below W.heap.size W W1) : IsS78 w0 W1 g f0 f1 f2 := h.grown (grown_of_below hw none) (by simp)
theorem IsS78.alloc {w0 W : World} {g : Nat} {f0 : List Int} {f1 : Int} {f2 : Bool} (h : IsS78 w0 W g f0 f1 f2) (o : Obj) : IsS78 w0 (W.alloc o) g f0 f1 f2 := h.below (below_alloc (Below.refl _ _) o)
theorem IsS78.drewN {w0 W : World} {g : Nat} {f0 : List Int} {f1 : Int} {f2 : Bool} (h : IsS78 w0 W g f0 f1 f2) (m : Nat) : IsS78 w0 (W.drewN m) g f0 f1 f2 := h
theorem IsS78.drew {w0 W : World} {g : Nat} {f0 : List Int} {f1 : Int} {f2 : Bool} (h : IsS78 w0 W g f0 f1 f2) : IsS78 w0 W.drew g f0 f1 f2 := h
theorem IsS78.at_ {w0 W : World} {g : Nat} {f0 : List Int} {f1 : Int} {f2 : Bool} {w' : World} {m : Nat} (hq : W.drewN m = w') (h : IsS78 w0 W g f0 f1 f2) : IsS78 w0 w' g f0 f1 f2 := by subst hq; exact IsS78.drewN h m
theorem IsS78.apart {w0 W : World} {g : Nat} {f0 : List Int} {f1 : Int} {f2 : Bool} {α : Type} {d : Kd α} {e : Nat} {base : Nat} {ok : Nat → Prop} {v : Value} {xs : List α} (h : IsS78 w0 W g f0 f1 f2) (ho : d.R e W base ok v xs) (ht : ∀ q, q ∈ e :: d.E → q ≠ 78) : d.R e W base (fun k => ok k ∧ k ≠ g) v xs := by
  obtain ⟨A0, c0, hb, hg, hr0⟩ := h
  exact Kd.R_types ho hb ht
theorem IsS78.own_ne {w0 W : World} {g : Nat} {f0 : List Int} {f1 : Int} {f2 : Bool} {α : Type} {d : Kd α} {e : Nat} {base : Nat} {ok : Nat → Prop} {v : Value} {xs : List α} (h : IsS78 w0 W g f0 f1 f2) (ho : d.R e W base ok v xs) (ht : e ≠ 78) : some g ≠ v.ownBlock := by
  obtain ⟨A0, c0, hb, hg, hr0⟩ := h
  exact Kd.R_ne ho hb ht
theorem IsS78.apartQ {w0 W : World} {g : Nat} {f0 : List Int} {f1 : Int} {f2 : Bool} {α : Type} {d : Kd α} {e : Nat} {base : Nat} {ok : Nat → Prop} {v : Value} {xs : List α} (h : IsS78 w0 W g f0 f1 f2) (ho : d.Q e W base ok v xs) (ht : ∀ q, q ∈ e :: d.E → q ≠ 78) : d.Q e W base (fun k => ok k ∧ k ≠ g) v xs := by
  obtain ⟨A0, c0, hb, hg, hr0⟩ := h
  exact Kd.Q_types ho hb ht
theorem IsS78.own_neQ {w0 W : World} {g : Nat} {f0 : List Int} {f1 : Int} {f2 : Bool} {α : Type} {d : Kd α} {e : Nat} {base : Nat} {ok : Nat → Prop} {v : Value} {xs : List α} (h : IsS78 w0 W g f0 f1 f2) (ho : d.Q e W base ok v xs) (ht : e ≠ 78) : some g ≠ v.ownBlock := by
  obtain ⟨A0, c0, hb, hg, hr0⟩ := h
  exact Kd.Q_ne ho hb ht
theorem IsS78.apartS {w0 W : World} {g : Nat} {f0 : List Int} {f1 : Int} {f2 : Bool} {α : Type} {d : Kd α} {e : Nat} {base : Nat} {ok : Nat → Prop} {v : Value} {xs : List α} (h : IsS78 w0 W g f0 f1 f2) (ho : d.S e W base ok v xs) (ht : ∀ q, q ∈ e :: d.E → q ≠ 78) : d.S e W base (fun k => ok k ∧ k ≠ g) v xs := by
  obtain ⟨A0, c0, hb, hg, hr0⟩ := h
  exact Kd.S_types ho hb ht
theorem IsS78.own_neS {w0 W : World} {g : Nat} {f0 : List Int} {f1 : Int} {f2 : Bool} {α : Type} {d : Kd α} {e : Nat} {base : Nat} {ok : Nat → Prop} {v : Value} {xs : List α} (h : IsS78 w0 W g f0 f1 f2) (ho : d.S e W base ok v xs) (ht : e ≠ 78) : some g ≠ v.ownBlock := by
  obtain ⟨A0, c0, hb, hg, hr0⟩ := h
  exact Kd.S_ne ho hb ht
theorem IsS78.lt {w0 W : World} {g : Nat} {f0 : List Int} {f1 : Int} {f2 : Bool} (h : IsS78 w0 W g f0 f1 f2) : g < W.heap.size := by
  obtain ⟨A0, c0, hb, hg, hr0⟩ := h
  exact blk_lt hb
theorem IsS78.ge {w0 W : World} {g : Nat} {f0 : List Int} {f1 : Int} {f2 : Bool} (h : IsS78 w0 W g f0 f1 f2) : w0.heap.size ≤ g := by
  obtain ⟨A0, c0, hb, hg, hr0⟩ := h
  exact hg
theorem IsS78.ne_blk {w0 W : World} {g : Nat} {f0 : List Int} {f1 : Int} {f2 : Bool} {a : Nat} {cs : Array Value} {t : TypeId} {fr : Nat × Nat} (h : IsS78 w0 W g f0 f1 f2) (hb2 : W.heap[a]? = some (.cells cs t fr)) (ht : t ≠ 78) : g ≠ a := by
  obtain ⟨A0, c0, hb, hg, hr0⟩ := h
  rintro rfl
  rw [hb] at hb2
  injection hb2 with hb2
  injection hb2 with _ ht2
  exact ht ht2.symm
theorem IsS78.far {w0 W : World} {g : Nat} {f0 : List Int} {f1 : Int} {f2 : Bool} {p : Addr} (h : IsS78 w0 W g f0 f1 f2) (hne : g ≠ p.block) (u : Value) : IsS78 w0 (W.setCell p u) g f0 f1 f2 := by
  obtain ⟨A0, c0, hb, hg, hr0⟩ := h
  exact ⟨A0, c0, blk_far hb hne u, hg, hr0⟩
theorem cellS78_0 {W : World} {g : Nat} {A0 : Option Addr} {c0 : Nat} {f0 : List Int} {f1 : Int} {f2 : Bool} (h : W.heap[g]? = some (.cells #[.slice A0 f0.length c0, .int .i64 f1, .bool f2] 78 (0, 0))) : W.cell? ⟨g, 0, none⟩ = some (.slice A0 f0.length c0) := (blk_cell h 0).trans rfl
theorem cellS78_1 {W : World} {g : Nat} {A0 : Option Addr} {c0 : Nat} {f0 : List Int} {f1 : Int} {f2 : Bool} (h : W.heap[g]? = some (.cells #[.slice A0 f0.length c0, .int .i64 f1, .bool f2] 78 (0, 0))) : W.cell? ⟨g, 1, none⟩ = some (.int .i64 f1) := (blk_cell h 1).trans rfl
theorem IsS78.set_1 {w0 W : World} {g : Nat} {f0 : List Int} {f1 : Int} {f2 : Bool} (h : IsS78 w0 W g f0 f1 f2) (x : Int) : IsS78 w0 (W.setCell ⟨g, 1, none⟩ (.int .i64 x)) g f0 x f2 := by
  obtain ⟨A0, c0, hb, hg, hr0⟩ := h
  exact ⟨A0, c0, by simpa using blk_set hb 1 (.int .i64 x), hg, hr0⟩
theorem cellS78_2 {W : World} {g : Nat} {A0 : Option Addr} {c0 : Nat} {f0 : List Int} {f1 : Int} {f2 : Bool} (h : W.heap[g]? = some (.cells #[.slice A0 f0.length c0, .int .i64 f1, .bool f2] 78 (0, 0))) : W.cell? ⟨g, 2, none⟩ = some (.bool f2) := (blk_cell h 2).trans rfl
theorem IsS78.set_2 {w0 W : World} {g : Nat} {f0 : List Int} {f1 : Int} {f2 : Bool} (h : IsS78 w0 W g f0 f1 f2) (x : Bool) : IsS78 w0 (W.setCell ⟨g, 2, none⟩ (.bool x)) g f0 f1 x := by
  obtain ⟨A0, c0, hb, hg, hr0⟩ := h
  exact ⟨A0, c0, by simpa using blk_set hb 2 (.bool x), hg, hr0⟩
theorem IsS78.new (w0 W : World) (A0 : Option Addr) (c0 : Nat) (f0 : List Int) (f1 : Int) (f2 : Bool) (hB : Below w0.heap.size w0 W) (hr0 : KC78 w0 A0 c0 f0) : IsS78 w0 (W.alloc (.cells #[.slice A0 f0.length c0, .int .i64 f1, .bool f2] 78)) W.heap.size f0 f1 f2 := ⟨A0, c0, by simpa using heap_alloc_new W _, hB.size, hr0⟩
def platenref20_Reader_Number.l0 : Nat → Int → Int → List Int → Int → Bool → Option (Int × Int × Bool)
  | 0, _, _, _, _, _ => none
  | k + 1, x3, x4, x1000, x1001, x1002 => if x4 < 8 then (if x1001 ≥ (x1000.length : Int) then (some (0, x1001, true)) else (if 0 ≤ x1001 then (if x1001 < (x1000.length : Int) then (platenref20_Reader_Number.l0 k (Go.bits .or .u64 (IntKind.u64.wrap (x3 * 256)) (IntKind.u64.wrap (rd x1000 x1001))) (wrap64 (x4 + 1)) x1000 (wrap64 (x1001 + 1)) x1002) else (none)) else (none))) else (some (x3, x1001, x1002))
def platenref20_Reader_Number.f (k : Nat) (s0_0 : List Int) (s0_1 : Int) (s0_2 : Bool) : Option (Int × Int × Bool) := platenref20_Reader_Number.l0 k 0 0 s0_0 s0_1 s0_2
theorem platenref20_Reader_Number.mono_l : ∀ k, (∀ y0 y1 y2 y3 y4, LeO (platenref20_Reader_Number.l0 k y0 y1 y2 y3 y4) (platenref20_Reader_Number.l0 (k + 1) y0 y1 y2 y3 y4))
  | 0 => fun _ _ _ _ _ r h => by simp [platenref20_Reader_Number.l0] at h
  | k + 1 => by
    have ih0 := platenref20_Reader_Number.mono_l k
    · intro y0 y1 y2 y3 y4
      unfold platenref20_Reader_Number.l0
      repeat' first
      | (with_reducible exact ih0 _ _ _ _ _)
      | (with_reducible exact LeO.refl _)
      | (with_reducible exact LeO.none _)
      | (with_reducible refine LeO.ite ?_ ?_)
      | (with_reducible refine LeO.bind ?_ (fun _ => ?_))
      | exact ih0 _ _ _ _ _
      | exact LeO.none _
      | refine LeO.ite ?_ ?_
      | refine LeO.bind ?_ (fun _ => ?_)
theorem platenref20_Reader_Number.mono : ∀ a0 a1 a2 k, LeO (platenref20_Reader_Number.f k a0 a1 a2) (platenref20_Reader_Number.f (k + 1) a0 a1 a2) := by
  intro a0 a1 a2 k
  have ih0 := platenref20_Reader_Number.mono_l k
  unfold platenref20_Reader_Number.f
  repeat' first
      | (with_reducible exact ih0 _ _ _ _ _)
      | (with_reducible exact LeO.refl _)
      | (with_reducible exact LeO.none _)
      | (with_reducible refine LeO.ite ?_ ?_)
      | (with_reducible refine LeO.bind ?_ (fun _ => ?_))
      | exact ih0 _ _ _ _ _
      | exact LeO.none _
      | refine LeO.ite ?_ ?_
      | refine LeO.bind ?_ (fun _ => ?_)
set_option maxHeartbeats 8000000 in
set_option maxRecDepth 100000 in
theorem platenref20_Reader_Number.calls (k : Nat) (g : Nat) (s0_0 : List Int) (s0_1 : Int) (s0_2 : Bool) (r1 : Int) (r2 : Int) (r3 : Bool) (w0 w : World) (hI : IsS78 w0 w g s0_0 s0_1 s0_2) (hB : Below w0.heap.size w0 w) (h : platenref20_Reader_Number.f k s0_0 s0_1 s0_2 = some (r1, r2, r3)) :
    Calls Try.prog 43 #[.pointer (some ⟨g, 0, none⟩)] w fun e w' => e = .returned (.int .u64 r1) ∧ IsS78 w0 w' g s0_0 r2 r3 ∧ Below w0.heap.size w0 w' ∧ KeepBut w w' g none := by
  have HI0 := Aside0.mk hI
  have HK := Aside0.mk (KeepBut.refl w g none)
  have HL := Aside0.mk hB.size
  clear hI
  have HW0 := Aside0.mk hB.size
  have HB := Aside0.mk hB
  clear hB
  have H : (platenref20_Reader_Number.l0 k 0 0 s0_0 s0_1 s0_2) = some (r1, r2, r3) := h
  clear h
  have H' := Aside0.mk H
  clear H
  go_enter Try.func43, Try.ntmps43
  go_wp2
  repeat (go_quiet (fail); try go_wp2)
  go_loopg [3, 4] k (fun kq v3 v4 w' => ∃ (x3_1 : Int) (x4_1 : Int) (x1001_1 : Int) (x1002_1 : Bool), v3 = .int .u64 x3_1 ∧ v4 = .int .i64 x4_1 ∧ Aside0 (platenref20_Reader_Number.l0 kq x3_1 x4_1 s0_0 x1001_1 x1002_1 = some (r1, r2, r3)) ∧ Aside0 (kq ≤ k) ∧ Aside0 (IsS78 w0 w' g s0_0 x1001_1 x1002_1) ∧ Aside0 (KeepBut w w' g none) ∧ Aside0 (Below w0.heap.size w0 w'))
  case atStart => exact ⟨(0), (0), (s0_1), (s0_2), (by first | rfl | (simp; done) | (simp [*]; done)), (by first | rfl | (simp; done) | (simp [*]; done)), H', ⟨Nat.le_refl _⟩, ⟨by repeat (first | (with_reducible first | exact HI0.out | apply IsS78.alloc | apply IsS78.drewN | apply IsS78.drew | apply IsS78.set_1 | apply IsS78.set_2) | exact HI0.out)⟩, ⟨by repeat (first | (with_reducible first | exact HK.out | apply KeepBut.set_ | apply keep_drewN | apply keep_drew | apply keep_alloc) | exact HK.out)⟩, ⟨by repeat (first | (with_reducible first | exact HB.out | apply below_alloc | apply pw_below_drewN | apply below_drew1 | refine below_set ?_ (IsS78.ge HI0.out)) | exact HB.out)⟩⟩
  case round =>
    clear H'
    obtain ⟨x3_1, x4_1, x1001_1, x1002_1, rfl, rfl, HA, HK1, HI0, HK, HB⟩ := hrel
    cases gk with
    | zero => exact absurd HA.out (by simp [platenref20_Reader_Number.l0])
    | succ k1 =>
      have H := HA.out
      clear HA
      simp only [platenref20_Reader_Number.l0] at H
      by_cases c2 : x4_1 < 8
      · rw [if_pos c2] at H
        have c2b0 : decide (x4_1 < 8) = true := decide_eq_true c2
        clear c2
        by_cases c3 : x1001_1 ≥ (s0_0.length : Int)
        · rw [if_pos c3] at H
          have c3b0 : decide ((s0_0.length : Int) ≤ x1001_1) = true := decide_eq_true c3
          clear c3
          simp only [Option.some.injEq, Prod.mk.injEq] at H
          obtain ⟨rfl, rfl, rfl⟩ := H
          obtain ⟨ASz4_0, cSz4_0, HGz4, hgz4, HSz4_0⟩ := HI0.out
          have hcz4_0 := cellS78_0 HGz4
          have hcz4_1 := cellS78_1 HGz4
          have hcz4_2 := cellS78_2 HGz4
          have hfz4_1 := blk_frozen HGz4 1
          have hfz4_2 := blk_frozen HGz4 2
          clear HGz4 hgz4
          go_wp2
          repeat (go_quiet (fail); try go_wp2)
          go_ret
          exact ⟨by first | rfl | (simp [errW_none, errW_some] <;> rfl) | (simp [*, errW_none, errW_some] <;> rfl), by repeat (first | (with_reducible first | exact HI0.out | apply IsS78.alloc | apply IsS78.drewN | apply IsS78.drew | apply IsS78.set_1 | apply IsS78.set_2) | exact HI0.out), by repeat (first | (with_reducible first | exact HB.out | apply below_alloc | apply pw_below_drewN | apply below_drew1 | refine below_set ?_ (IsS78.ge HI0.out)) | exact HB.out), by repeat (first | (with_reducible first | exact HK.out | apply KeepBut.set_ | apply keep_drewN | apply keep_drew | apply keep_alloc) | exact HK.out)⟩
        · rw [if_neg c3] at H
          have c3b0 : decide ((s0_0.length : Int) ≤ x1001_1) = false := decide_eq_false c3
          clear c3
          by_cases c5 : 0 ≤ x1001_1
          · rw [if_pos c5] at H
            have c5b0 : decide (0 ≤ x1001_1) = true := decide_eq_true c5
            clear c5
            by_cases c6 : x1001_1 < (s0_0.length : Int)
            · rw [if_pos c6] at H
              have c6b0 : decide (x1001_1 < (s0_0.length : Int)) = true := decide_eq_true c6
              clear c6
              have H' := Aside0.mk H
              clear H
              obtain ⟨ASz7_0, cSz7_0, HGz7, hgz7, HSz7_0⟩ := HI0.out
              have hcz7_0 := cellS78_0 HGz7
              have hcz7_1 := cellS78_1 HGz7
              have hcz7_2 := cellS78_2 HGz7
              have hfz7_1 := blk_frozen HGz7 1
              have hfz7_2 := blk_frozen HGz7 2
              clear HGz7 hgz7
              have p308 : 0 ≤ (x1001_1 : Int) := of_decide_eq_true (by first | (with_reducible assumption) | assumption)
              have q308 : x1001_1 < (s0_0.length : Int) := of_decide_eq_true (by first | (with_reducible assumption) | assumption)
              obtain ⟨ad308, e308, hx308_0⟩ := Kd.at_int HSz7_0.1 x1001_1 p308 q308
              cases e308
              replace hx308_0 := pw_cell_below HB.out hx308_0
              replace p308 := eq_true p308
              replace q308 := eq_true q308
              go_wp2
              repeat (go_quiet (fail); try go_wp2)
              go_roundg k1
              case measure => have := HK1.out; omega
              case rel => exact ⟨(Go.bits .or .u64 (IntKind.u64.wrap (x3_1 * 256)) (IntKind.u64.wrap (rd s0_0 x1001_1))), (wrap64 (x4_1 + 1)), (wrap64 (x1001_1 + 1)), (x1002_1), (by first | rfl | (simp; done) | (simp [*]; done)), (by first | rfl | (simp; done) | (simp [*]; done)), H', ⟨by have := HK1.out; omega⟩, ⟨by repeat (first | (with_reducible first | exact HI0.out | apply IsS78.alloc | apply IsS78.drewN | apply IsS78.drew | apply IsS78.set_1 | apply IsS78.set_2) | exact HI0.out)⟩, ⟨by repeat (first | (with_reducible first | exact HK.out | apply KeepBut.set_ | apply keep_drewN | apply keep_drew | apply keep_alloc) | exact HK.out)⟩, ⟨by repeat (first | (with_reducible first | exact HB.out | apply below_alloc | apply pw_below_drewN | apply below_drew1 | refine below_set ?_ (IsS78.ge HI0.out)) | exact HB.out)⟩⟩
            · rw [if_neg c6] at H
              exact absurd H (by simp)
          · rw [if_neg c5] at H
            exact absurd H (by simp)
      · rw [if_neg c2] at H
        have c2b0 : decide (x4_1 < 8) = false := decide_eq_false c2
        clear c2
        simp only [Option.some.injEq, Prod.mk.injEq] at H
        obtain ⟨rfl, rfl, rfl⟩ := H
        go_wp2
        repeat (go_quiet (fail); try go_wp2)
        go_ret
        exact ⟨by first | rfl | (simp [errW_none, errW_some] <;> rfl) | (simp [*, errW_none, errW_some] <;> rfl), by repeat (first | (with_reducible first | exact HI0.out | apply IsS78.alloc | apply IsS78.drewN | apply IsS78.drew | apply IsS78.set_1 | apply IsS78.set_2) | exact HI0.out), by repeat (first | (with_reducible first | exact HB.out | apply below_alloc | apply pw_below_drewN | apply below_drew1 | refine below_set ?_ (IsS78.ge HI0.out)) | exact HB.out), by repeat (first | (with_reducible first | exact HK.out | apply KeepBut.set_ | apply keep_drewN | apply keep_drew | apply keep_alloc) | exact HK.out)⟩
attribute [local go_sem] max2_int min2_int max_two min_two max_three min_three max_four min_four   -- for this text's walks alone
-- NOT PRINTED: function 33 (platenref20_Marked)
def platenref20_Reader_number.f (k : Nat) (s0_0 : List Int) (s0_1 : Int) (s0_2 : Bool) : Option (Int × Int × Bool) := (platenref20_Reader_Number.f k s0_0 s0_1 s0_2).bind fun bt326 => (some (wrap64 (bt326.1), bt326.2.1, bt326.2.2))
theorem platenref20_Reader_number.mono : ∀ a0 a1 a2 k, LeO (platenref20_Reader_number.f k a0 a1 a2) (platenref20_Reader_number.f (k + 1) a0 a1 a2) := by
  intro a0 a1 a2 k
  unfold platenref20_Reader_number.f
  repeat' first
      | (with_reducible exact platenref20_Reader_Number.mono _ _ _ _)
      | (with_reducible exact LeO.refl _)
      | (with_reducible exact LeO.none _)
      | (with_reducible refine LeO.ite ?_ ?_)
      | (with_reducible refine LeO.bind ?_ (fun _ => ?_))
      | exact platenref20_Reader_Number.mono _ _ _ _
      | exact LeO.none _
      | refine LeO.ite ?_ ?_
      | refine LeO.bind ?_ (fun _ => ?_)
set_option maxHeartbeats 8000000 in
set_option maxRecDepth 100000 in
theorem platenref20_Reader_number.calls (k : Nat) (g : Nat) (s0_0 : List Int) (s0_1 : Int) (s0_2 : Bool) (r1 : Int) (r2 : Int) (r3 : Bool) (w0 w : World) (hI : IsS78 w0 w g s0_0 s0_1 s0_2) (hB : Below w0.heap.size w0 w) (h : platenref20_Reader_number.f k s0_0 s0_1 s0_2 = some (r1, r2, r3)) :
    Calls Try.prog 34 #[.pointer (some ⟨g, 0, none⟩)] w fun e w' => e = .returned (.int .i64 r1) ∧ IsS78 w0 w' g s0_0 r2 r3 ∧ Below w0.heap.size w0 w' ∧ KeepBut w w' g none := by
  have HI0 := Aside0.mk hI
  have HK := Aside0.mk (KeepBut.refl w g none)
  have HL := Aside0.mk hB.size
  clear hI
  have HW0 := Aside0.mk hB.size
  have HB := Aside0.mk hB
  clear hB
  have H : ((platenref20_Reader_Number.f k s0_0 s0_1 s0_2).bind fun bt326 => (some (wrap64 (bt326.1), bt326.2.1, bt326.2.2))) = some (r1, r2, r3) := h
  clear h
  replace H := Option.bind_eq_some_iff.mp H
  obtain ⟨⟨t326, t327, t328⟩, A20, H⟩ := H
  replace H : (some (wrap64 (t326), t327, t328)) = some (r1, r2, r3) := H
  have A2 := Aside0.mk A20
  clear A20
  simp only [Option.some.injEq, Prod.mk.injEq] at H
  obtain ⟨rfl, rfl, rfl⟩ := H
  go_enter Try.func34, Try.ntmps34
  go_wp2_with (first | ((with_reducible refine gate_callee (f := 43) rfl ?_); refine goesL_ (some 4) rfl rfl Try.func43 (by kernel_rfl) rfl #[.pointer (some ⟨g, 0, none⟩)] rfl (by (try simp only [List.map_toArray, List.map_cons, List.map_nil]); first | done | rfl | (simp only [List.length_drop, List.length_take]; rfl)) ?_; (with_reducible refine (platenref20_Reader_Number.calls k g s0_0 s0_1 s0_2 t326 t327 t328 w0 _ ?side1 ?side2 A2.out).mono ?_); (case side1 => repeat (first | (with_reducible first | exact HI0.out | apply IsS78.alloc | apply IsS78.drewN | apply IsS78.drew | apply IsS78.set_1 | apply IsS78.set_2) | exact HI0.out)); (case side2 => repeat (first | (with_reducible first | exact HB.out | apply below_alloc | apply pw_below_drewN | apply below_drew1 | refine below_set ?_ (IsS78.ge HI0.out)) | exact HB.out)); rintro e w3 ⟨rfl, hi, hb, hk⟩; refine ⟨_, rfl, ?_⟩; have n0_ := Aside0.mk (KeepBut.trans (by repeat (first | (with_reducible first | exact HK.out | apply KeepBut.set_ | apply keep_drewN | apply keep_drew | apply keep_alloc) | exact HK.out)) hk (.inl rfl)); have n1_ := Aside0.mk (hb); have n2_ := Aside0.mk (hi); clear HK; clear HB; clear HI0; have HK := n0_; have HB := n1_; have HI0 := n2_; clear n0_ n1_ n2_; (try clear hb); (try clear hb2); (try clear hk); (try clear hi)))
  go_ret
  exact ⟨by first | rfl | (simp [errW_none, errW_some] <;> rfl) | (simp [*, errW_none, errW_some] <;> rfl), by repeat (first | (with_reducible first | exact HI0.out | apply IsS78.alloc | apply IsS78.drewN | apply IsS78.drew | apply IsS78.set_1 | apply IsS78.set_2) | exact HI0.out), by repeat (first | (with_reducible first | exact HB.out | apply below_alloc | apply pw_below_drewN | apply below_drew1 | refine below_set ?_ (IsS78.ge HI0.out)) | exact HB.out), by repeat (first | (with_reducible first | exact HK.out | apply KeepBut.set_ | apply keep_drewN | apply keep_drew | apply keep_alloc) | exact HK.out)⟩
def platenref20_Reader_Count.f (k : Nat) (s0_0 : List Int) (s0_1 : Int) (s0_2 : Bool) (a1 : Int) : Option (Int × Int × Bool) := (platenref20_Reader_Number.f k s0_0 s0_1 s0_2).bind fun bt329 => (if (IntKind.u64.wrap (a1)) = 0 then (none) else (if bt329.1 > (IntKind.u64.wrap (Int.tdiv (IntKind.u64.wrap (wrap64 ((s0_0.length : Int) - bt329.2.1))) (IntKind.u64.wrap (a1)))) then (some (0, bt329.2.1, true)) else (some (wrap64 (bt329.1), bt329.2.1, bt329.2.2))))
theorem platenref20_Reader_Count.mono : ∀ a0 a1 a2 a3 k, LeO (platenref20_Reader_Count.f k a0 a1 a2 a3) (platenref20_Reader_Count.f (k + 1) a0 a1 a2 a3) := by
  intro a0 a1 a2 a3 k
  unfold platenref20_Reader_Count.f
  repeat' first
      | (with_reducible exact platenref20_Reader_Number.mono _ _ _ _)
      | (with_reducible exact LeO.refl _)
      | (with_reducible exact LeO.none _)
      | (with_reducible refine LeO.ite ?_ ?_)
      | (with_reducible refine LeO.bind ?_ (fun _ => ?_))
      | exact platenref20_Reader_Number.mono _ _ _ _
      | exact LeO.none _
      | refine LeO.ite ?_ ?_
      | refine LeO.bind ?_ (fun _ => ?_)
set_option maxHeartbeats 8000000 in
set_option maxRecDepth 100000 in
theorem platenref20_Reader_Count.calls (k : Nat) (g : Nat) (s0_0 : List Int) (s0_1 : Int) (s0_2 : Bool) (a1 : Int) (r1 : Int) (r2 : Int) (r3 : Bool) (w0 w : World) (hI : IsS78 w0 w g s0_0 s0_1 s0_2) (hB : Below w0.heap.size w0 w) (h : platenref20_Reader_Count.f k s0_0 s0_1 s0_2 a1 = some (r1, r2, r3)) :
    Calls Try.prog 35 #[.pointer (some ⟨g, 0, none⟩), .int .i64 a1] w fun e w' => e = .returned (.int .i64 r1) ∧ IsS78 w0 w' g s0_0 r2 r3 ∧ Below w0.heap.size w0 w' ∧ KeepBut w w' g none := by
  have HI0 := Aside0.mk hI
  have HK := Aside0.mk (KeepBut.refl w g none)
  have HL := Aside0.mk hB.size
  clear hI
  have HW0 := Aside0.mk hB.size
  have HB := Aside0.mk hB
  clear hB
  have H : ((platenref20_Reader_Number.f k s0_0 s0_1 s0_2).bind fun bt329 => (if (IntKind.u64.wrap (a1)) = 0 then (none) else (if bt329.1 > (IntKind.u64.wrap (Int.tdiv (IntKind.u64.wrap (wrap64 ((s0_0.length : Int) - bt329.2.1))) (IntKind.u64.wrap (a1)))) then (some (0, bt329.2.1, true)) else (some (wrap64 (bt329.1), bt329.2.1, bt329.2.2))))) = some (r1, r2, r3) := h
  clear h
  replace H := Option.bind_eq_some_iff.mp H
  obtain ⟨⟨t329, t330, t331⟩, A30, H⟩ := H
  replace H : (if (IntKind.u64.wrap (a1)) = 0 then (none) else (if t329 > (IntKind.u64.wrap (Int.tdiv (IntKind.u64.wrap (wrap64 ((s0_0.length : Int) - t330))) (IntKind.u64.wrap (a1)))) then (some (0, t330, true)) else (some (wrap64 (t329), t330, t331)))) = some (r1, r2, r3) := H
  have A3 := Aside0.mk A30
  clear A30
  by_cases c4 : (IntKind.u64.wrap (a1)) = 0
  · rw [if_pos c4] at H
    exact absurd H (by simp)
  · rw [if_neg c4] at H
    have c4b0 : ((IntKind.u64.wrap (a1)) == 0) = false := beq_eq_false_iff_ne.mpr c4
    have c4b1 : ((IntKind.u64.wrap (a1)) != 0) = true := bne_iff_ne.mpr c4
    by_cases c5 : t329 > (IntKind.u64.wrap (Int.tdiv (IntKind.u64.wrap (wrap64 ((s0_0.length : Int) - t330))) (IntKind.u64.wrap (a1))))
    · rw [if_pos c5] at H
      have c5b0 : decide ((IntKind.u64.wrap (Int.tdiv (IntKind.u64.wrap (wrap64 ((s0_0.length : Int) - t330))) (IntKind.u64.wrap (a1)))) < t329) = true := decide_eq_true c5
      clear c5
      simp only [Option.some.injEq, Prod.mk.injEq] at H
      obtain ⟨rfl, rfl, rfl⟩ := H
      go_enter Try.func35, Try.ntmps35
      go_wp2_with (first | (go_at_call 43; (with_reducible refine (platenref20_Reader_Number.calls k g s0_0 s0_1 s0_2 t329 t330 t331 w0 _ ?side1 ?side2 A3.out).mono ?_); (case side1 => repeat (first | (with_reducible first | exact HI0.out | apply IsS78.alloc | apply IsS78.drewN | apply IsS78.drew | apply IsS78.set_1 | apply IsS78.set_2) | exact HI0.out)); (case side2 => repeat (first | (with_reducible first | exact HB.out | apply below_alloc | apply pw_below_drewN | apply below_drew1 | refine below_set ?_ (IsS78.ge HI0.out)) | exact HB.out)); rintro e w6 ⟨rfl, hi, hb, hk⟩; have n0_ := Aside0.mk (KeepBut.trans (by repeat (first | (with_reducible first | exact HK.out | apply KeepBut.set_ | apply keep_drewN | apply keep_drew | apply keep_alloc) | exact HK.out)) hk (.inl rfl)); have n1_ := Aside0.mk (hb); have n2_ := Aside0.mk (hi); clear HK; clear HB; clear HI0; have HK := n0_; have HB := n1_; have HI0 := n2_; clear n0_ n1_ n2_; (try clear hb); (try clear hb2); (try clear hk); (try clear hi); obtain ⟨ASz7_0, cSz7_0, HGz7, hgz7, HSz7_0⟩ := HI0.out; have hcz7_0 := cellS78_0 HGz7; have hcz7_1 := cellS78_1 HGz7; have hcz7_2 := cellS78_2 HGz7; have hfz7_1 := blk_frozen HGz7 1; have hfz7_2 := blk_frozen HGz7 2; clear HGz7 hgz7))
      repeat (go_quiet (first | (go_at_call 43; (with_reducible refine (platenref20_Reader_Number.calls k g s0_0 s0_1 s0_2 t329 t330 t331 w0 _ ?side1 ?side2 A3.out).mono ?_); (case side1 => repeat (first | (with_reducible first | exact HI0.out | apply IsS78.alloc | apply IsS78.drewN | apply IsS78.drew | apply IsS78.set_1 | apply IsS78.set_2) | exact HI0.out)); (case side2 => repeat (first | (with_reducible first | exact HB.out | apply below_alloc | apply pw_below_drewN | apply below_drew1 | refine below_set ?_ (IsS78.ge HI0.out)) | exact HB.out)); rintro e w6 ⟨rfl, hi, hb, hk⟩; have n0_ := Aside0.mk (KeepBut.trans (by repeat (first | (with_reducible first | exact HK.out | apply KeepBut.set_ | apply keep_drewN | apply keep_drew | apply keep_alloc) | exact HK.out)) hk (.inl rfl)); have n1_ := Aside0.mk (hb); have n2_ := Aside0.mk (hi); clear HK; clear HB; clear HI0; have HK := n0_; have HB := n1_; have HI0 := n2_; clear n0_ n1_ n2_; (try clear hb); (try clear hb2); (try clear hk); (try clear hi); obtain ⟨ASz7_0, cSz7_0, HGz7, hgz7, HSz7_0⟩ := HI0.out; have hcz7_0 := cellS78_0 HGz7; have hcz7_1 := cellS78_1 HGz7; have hcz7_2 := cellS78_2 HGz7; have hfz7_1 := blk_frozen HGz7 1; have hfz7_2 := blk_frozen HGz7 2; clear HGz7 hgz7)); try go_wp2_with (first | (go_at_call 43; (with_reducible refine (platenref20_Reader_Number.calls k g s0_0 s0_1 s0_2 t329 t330 t331 w0 _ ?side1 ?side2 A3.out).mono ?_); (case side1 => repeat (first | (with_reducible first | exact HI0.out | apply IsS78.alloc | apply IsS78.drewN | apply IsS78.drew | apply IsS78.set_1 | apply IsS78.set_2) | exact HI0.out)); (case side2 => repeat (first | (with_reducible first | exact HB.out | apply below_alloc | apply pw_below_drewN | apply below_drew1 | refine below_set ?_ (IsS78.ge HI0.out)) | exact HB.out)); rintro e w6 ⟨rfl, hi, hb, hk⟩; have n0_ := Aside0.mk (KeepBut.trans (by repeat (first | (with_reducible first | exact HK.out | apply KeepBut.set_ | apply keep_drewN | apply keep_drew | apply keep_alloc) | exact HK.out)) hk (.inl rfl)); have n1_ := Aside0.mk (hb); have n2_ := Aside0.mk (hi); clear HK; clear HB; clear HI0; have HK := n0_; have HB := n1_; have HI0 := n2_; clear n0_ n1_ n2_; (try clear hb); (try clear hb2); (try clear hk); (try clear hi); obtain ⟨ASz7_0, cSz7_0, HGz7, hgz7, HSz7_0⟩ := HI0.out; have hcz7_0 := cellS78_0 HGz7; have hcz7_1 := cellS78_1 HGz7; have hcz7_2 := cellS78_2 HGz7; have hfz7_1 := blk_frozen HGz7 1; have hfz7_2 := blk_frozen HGz7 2; clear HGz7 hgz7)))
      go_ret
      exact ⟨by first | rfl | (simp [errW_none, errW_some] <;> rfl) | (simp [*, errW_none, errW_some] <;> rfl), by repeat (first | (with_reducible first | exact HI0.out | apply IsS78.alloc | apply IsS78.drewN | apply IsS78.drew | apply IsS78.set_1 | apply IsS78.set_2) | exact HI0.out), by repeat (first | (with_reducible first | exact HB.out | apply below_alloc | apply pw_below_drewN | apply below_drew1 | refine below_set ?_ (IsS78.ge HI0.out)) | exact HB.out), by repeat (first | (with_reducible first | exact HK.out | apply KeepBut.set_ | apply keep_drewN | apply keep_drew | apply keep_alloc) | exact HK.out)⟩
    · rw [if_neg c5] at H
      have c5b0 : decide ((IntKind.u64.wrap (Int.tdiv (IntKind.u64.wrap (wrap64 ((s0_0.length : Int) - t330))) (IntKind.u64.wrap (a1)))) < t329) = false := decide_eq_false c5
      clear c5
      simp only [Option.some.injEq, Prod.mk.injEq] at H
      obtain ⟨rfl, rfl, rfl⟩ := H
      go_enter Try.func35, Try.ntmps35
      go_wp2_with (first | (go_at_call 43; (with_reducible refine (platenref20_Reader_Number.calls k g s0_0 s0_1 s0_2 t329 t330 t331 w0 _ ?side1 ?side2 A3.out).mono ?_); (case side1 => repeat (first | (with_reducible first | exact HI0.out | apply IsS78.alloc | apply IsS78.drewN | apply IsS78.drew | apply IsS78.set_1 | apply IsS78.set_2) | exact HI0.out)); (case side2 => repeat (first | (with_reducible first | exact HB.out | apply below_alloc | apply pw_below_drewN | apply below_drew1 | refine below_set ?_ (IsS78.ge HI0.out)) | exact HB.out)); rintro e w8 ⟨rfl, hi, hb, hk⟩; have n0_ := Aside0.mk (KeepBut.trans (by repeat (first | (with_reducible first | exact HK.out | apply KeepBut.set_ | apply keep_drewN | apply keep_drew | apply keep_alloc) | exact HK.out)) hk (.inl rfl)); have n1_ := Aside0.mk (hb); have n2_ := Aside0.mk (hi); clear HK; clear HB; clear HI0; have HK := n0_; have HB := n1_; have HI0 := n2_; clear n0_ n1_ n2_; (try clear hb); (try clear hb2); (try clear hk); (try clear hi); obtain ⟨ASz9_0, cSz9_0, HGz9, hgz9, HSz9_0⟩ := HI0.out; have hcz9_0 := cellS78_0 HGz9; have hcz9_1 := cellS78_1 HGz9; have hcz9_2 := cellS78_2 HGz9; have hfz9_1 := blk_frozen HGz9 1; have hfz9_2 := blk_frozen HGz9 2; clear HGz9 hgz9))
      repeat (go_quiet (first | (go_at_call 43; (with_reducible refine (platenref20_Reader_Number.calls k g s0_0 s0_1 s0_2 t329 t330 t331 w0 _ ?side1 ?side2 A3.out).mono ?_); (case side1 => repeat (first | (with_reducible first | exact HI0.out | apply IsS78.alloc | apply IsS78.drewN | apply IsS78.drew | apply IsS78.set_1 | apply IsS78.set_2) | exact HI0.out)); (case side2 => repeat (first | (with_reducible first | exact HB.out | apply below_alloc | apply pw_below_drewN | apply below_drew1 | refine below_set ?_ (IsS78.ge HI0.out)) | exact HB.out)); rintro e w8 ⟨rfl, hi, hb, hk⟩; have n0_ := Aside0.mk (KeepBut.trans (by repeat (first | (with_reducible first | exact HK.out | apply KeepBut.set_ | apply keep_drewN | apply keep_drew | apply keep_alloc) | exact HK.out)) hk (.inl rfl)); have n1_ := Aside0.mk (hb); have n2_ := Aside0.mk (hi); clear HK; clear HB; clear HI0; have HK := n0_; have HB := n1_; have HI0 := n2_; clear n0_ n1_ n2_; (try clear hb); (try clear hb2); (try clear hk); (try clear hi); obtain ⟨ASz9_0, cSz9_0, HGz9, hgz9, HSz9_0⟩ := HI0.out; have hcz9_0 := cellS78_0 HGz9; have hcz9_1 := cellS78_1 HGz9; have hcz9_2 := cellS78_2 HGz9; have hfz9_1 := blk_frozen HGz9 1; have hfz9_2 := blk_frozen HGz9 2; clear HGz9 hgz9)); try go_wp2_with (first | (go_at_call 43; (with_reducible refine (platenref20_Reader_Number.calls k g s0_0 s0_1 s0_2 t329 t330 t331 w0 _ ?side1 ?side2 A3.out).mono ?_); (case side1 => repeat (first | (with_reducible first | exact HI0.out | apply IsS78.alloc | apply IsS78.drewN | apply IsS78.drew | apply IsS78.set_1 | apply IsS78.set_2) | exact HI0.out)); (case side2 => repeat (first | (with_reducible first | exact HB.out | apply below_alloc | apply pw_below_drewN | apply below_drew1 | refine below_set ?_ (IsS78.ge HI0.out)) | exact HB.out)); rintro e w8 ⟨rfl, hi, hb, hk⟩; have n0_ := Aside0.mk (KeepBut.trans (by repeat (first | (with_reducible first | exact HK.out | apply KeepBut.set_ | apply keep_drewN | apply keep_drew | apply keep_alloc) | exact HK.out)) hk (.inl rfl)); have n1_ := Aside0.mk (hb); have n2_ := Aside0.mk (hi); clear HK; clear HB; clear HI0; have HK := n0_; have HB := n1_; have HI0 := n2_; clear n0_ n1_ n2_; (try clear hb); (try clear hb2); (try clear hk); (try clear hi); obtain ⟨ASz9_0, cSz9_0, HGz9, hgz9, HSz9_0⟩ := HI0.out; have hcz9_0 := cellS78_0 HGz9; have hcz9_1 := cellS78_1 HGz9; have hcz9_2 := cellS78_2 HGz9; have hfz9_1 := blk_frozen HGz9 1; have hfz9_2 := blk_frozen HGz9 2; clear HGz9 hgz9)))
      go_ret
      exact ⟨by first | rfl | (simp [errW_none, errW_some] <;> rfl) | (simp [*, errW_none, errW_some] <;> rfl), by repeat (first | (with_reducible first | exact HI0.out | apply IsS78.alloc | apply IsS78.drewN | apply IsS78.drew | apply IsS78.set_1 | apply IsS78.set_2) | exact HI0.out), by repeat (first | (with_reducible first | exact HB.out | apply below_alloc | apply pw_below_drewN | apply below_drew1 | refine below_set ?_ (IsS78.ge HI0.out)) | exact HB.out), by repeat (first | (with_reducible first | exact HK.out | apply KeepBut.set_ | apply keep_drewN | apply keep_drew | apply keep_alloc) | exact HK.out)⟩
attribute [local go_sem] max2_int min2_int max_two min_two max_three min_three max_four min_four   -- for this text's walks alone
--OVER
def platenref20_Reader_Text.f (k : Nat) (s0_0 : List Int) (s0_1 : Int) (s0_2 : Bool) : Option (ByteArray × Int × Bool) :=
  (platenref20_Reader_Number.f k s0_0 s0_1 s0_2).bind fun t => if 0 ≤ t.2.1 ∧ t.2.1 ≤ (s0_0.length : Int) ∧ 0 ≤ t.1 then (if (s0_0.length : Int) - t.2.1 < t.1 then some (⟨#[]⟩, t.2.1, true) else some (strOfNums ((s0_0.drop t.2.1.toNat).take t.1.toNat), t.2.1 + t.1, t.2.2)) else none
theorem platenref20_Reader_Text.mono : ∀ a0 a1 a2 k, LeO (platenref20_Reader_Text.f k a0 a1 a2) (platenref20_Reader_Text.f (k + 1) a0 a1 a2) := by
  intro a0 a1 a2 k
  exact LeO.bind (platenref20_Reader_Number.mono _ _ _ _) (fun _ => LeO.refl _)
theorem cut78 {w0 : World} {A : Option Addr} {c : Nat} {bs : List Int} (h : KC78 w0 A c bs) (n m : Nat) (hn : n + m ≤ bs.length) (A' : Option Addr) (c' : Nat) (hA : 0 < m → A' = A.map (fun x => x.add n)) : Kd.C (Kd.int .u8) w0 A' m ((bs.drop n).take m) := by
  have hl : ((bs.drop n).take m).length = m := by simp; omega
  obtain ⟨h0, h1, h2⟩ := h.1
  refine ⟨hl, by omega, fun hp => ?_⟩
  obtain ⟨ad, hA', hcells⟩ := h2 (by omega)
  refine ⟨ad.add n, by rw [hA hp, hA']; rfl, fun j p hj => ?_⟩
  have hj' : bs[n + j]? = some p := by
    rw [List.getElem?_take] at hj
    split at hj
    · rwa [List.getElem?_drop] at hj
    · cases hj
  obtain ⟨cs, h3, h4, h5⟩ := hcells (n + j) p hj'
  refine ⟨cs, h3, h4, fun i u hu => ?_⟩
  have := h5 i u hu
  rw [← this]
  congr 1
  have hs : (Kd.int .u8).sz = 1 := rfl
  rw [add_add, hs]; congr 1; omega
set_option maxHeartbeats 1000000 in
theorem platenref20_Reader_Text.calls (k : Nat) (g : Nat) (s0_0 : List Int) (s0_1 : Int) (s0_2 : Bool) (r1 : ByteArray) (r2 : Int) (r3 : Bool) (w0 w : World) (hI : IsS78 w0 w g s0_0 s0_1 s0_2) (hB : Below w0.heap.size w0 w) (h : platenref20_Reader_Text.f k s0_0 s0_1 s0_2 = some (r1, r2, r3)) :
    Calls Try.prog 50 #[.pointer (some ⟨g, 0, none⟩)] w fun e w' => e = .returned (.string r1) ∧ IsS78 w0 w' g s0_0 r2 r3 ∧ Below w0.heap.size w0 w' ∧ KeepBut w w' g none := by
  obtain ⟨⟨t1, t2, t3⟩, hn, h⟩ := Option.bind_eq_some_iff.mp h
  have HN := Aside0.mk hn
  have HI := Aside0.mk hI
  have HB := Aside0.mk hB
  clear hn hI hB
  dsimp only at h
  by_cases hr : 0 ≤ t2 ∧ t2 ≤ (s0_0.length : Int) ∧ 0 ≤ t1
  · rw [if_pos hr] at h
    obtain ⟨ha, hb, hc⟩ := hr
    obtain ⟨p, rfl⟩ := Int.eq_ofNat_of_zero_le ha
    obtain ⟨m, rfl⟩ := Int.eq_ofNat_of_zero_le hc
    simp only [Int.toNat_natCast] at h
    have HH := Aside0.mk h
    clear h ha hc
    go_enter Try.func50, Try.ntmps50
    go_wp2_with fail
    refine (platenref20_Reader_Number.calls k g s0_0 s0_1 s0_2 _ _ _ w0 w HI.out HB.out HN.out).mono ?_
    rintro e w1 ⟨rfl, hI, hB, hK⟩
    obtain ⟨A0, c0, hbk, hg, hT⟩ := hI
    have hc0 := cellS78_0 hbk
    have hc1 := cellS78_1 hbk
    have hc2 := cellS78_2 hbk
    have hfr := blk_frozen hbk
    have hlen := hT.1.2.1
    have hcap := hT.2
    have HBK := Aside0.mk hbk
    have HB1 := Aside0.mk hB
    have HK := Aside0.mk hK
    have HT := Aside0.mk hT
    clear hbk hB hK hT HN HI HB
    by_cases hgt : (s0_0.length : Int) - (p : Int) < (m : Int)
    · have h2 : decide ((s0_0.length : Int) - (p : Int) < (m : Int)) = true := decide_eq_true hgt
      have H := HH.out
      rw [if_pos hgt] at H
      simp only [Option.some.injEq, Prod.mk.injEq] at H
      obtain ⟨e1, e2, e3⟩ := H
      subst e1; subst e2; subst e3
      clear HH
      go_wp2
      repeat (go_quiet (fail); try go_wp2)
      go_ret
      exact ⟨rfl, ⟨A0, c0, by simpa using blk_put (w := w1.drewN _) HBK.out 2 (.bool true) rfl, hg, HT.out⟩, below_set (pw_below_drewN HB1.out _) hg, (keep_drewN HK.out _).set_ 2 _⟩
    · have h2 : decide ((s0_0.length : Int) - (p : Int) < (m : Int)) = false := decide_eq_false hgt
      have H := HH.out
      rw [if_neg hgt] at H
      simp only [Option.some.injEq, Prod.mk.injEq] at H
      obtain ⟨e1, e2, e3⟩ := H
      subst e2; subst e3
      clear HH
      have hle : p + m ≤ s0_0.length := by omega
      have i1 : IntKind.i64.wrap (m : Int) = m := IntWalk.i64_in _ (by omega)
      have i2 : IntKind.i64.wrap ((p : Int) + (m : Int)) = (p : Int) + (m : Int) := IntWalk.i64_in _ (by omega)
      have i3 : 0 ≤ (p : Int) + (m : Int) := by omega
      have i4 : ((p : Int) + (m : Int)).toNat = p + m := by omega
      have hml : ((s0_0.drop p).take m).length = m := by simp; omega
      have hcvA : ∀ (A' : Option Addr) (c' : Nat), (0 < m → A' = A0.map (fun x => x.add p)) → ∀ j, (convert 32 9 (.slice A' m c')).run Try.prog (w1.drewN j) = .ok (.string r1) (w1.drewN j) := fun A' c' hA' j => by
        have h := cut78 HT.out p m hle A' c' hA'
        have h2 := Kd.C_string (c := c') Try.underlying32 Try.underlying5 Try.underlying9 (Kd.C_below (hml.symm ▸ h) (pw_below_drewN HB1.out j))
        rw [hml, e1] at h2
        exact h2
      clear e1 hml
      by_cases hpc : p = c0
      · subst hpc
        have hcv := hcvA A0 0 (fun h => by omega)
        clear hcvA
        go_wp2
        go_quiet (fail)
        go_wp2
        go_quiet (fail)
        go_wp2
        go_ret
        exact ⟨rfl, ⟨A0, _, by simpa using blk_put (w := w1.drewN _) HBK.out 1 (.int .i64 ((p : Int) + (m : Int))) rfl, hg, HT.out⟩, below_set (pw_below_drewN HB1.out _) hg, (keep_drewN HK.out _).set_ 1 _⟩
      · have hcv := hcvA (A0.map (fun x => x.add p)) (c0 - p) (fun _ => rfl)
        clear hcvA
        go_wp2
        go_quiet (fail)
        go_wp2
        go_quiet (fail)
        go_wp2
        go_ret
        exact ⟨rfl, ⟨A0, _, by simpa using blk_put (w := w1.drewN _) HBK.out 1 (.int .i64 ((p : Int) + (m : Int))) rfl, hg, HT.out⟩, below_set (pw_below_drewN HB1.out _) hg, (keep_drewN HK.out _).set_ 1 _⟩
  · rw [if_neg hr] at h; cases h
end Go.Proofs.Ytihiapjfdgoomaa.P
