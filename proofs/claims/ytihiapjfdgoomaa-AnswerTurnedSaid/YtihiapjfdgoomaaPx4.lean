-- Laid by over.py, a program of this session, over the kit's printer
import Derived.Test.YtihiapjfdgoomaaPx0
import Derived.Test.YtihiapjfdgoomaaPx3
namespace Go.Proofs.Ytihiapjfdgoomaa.P
open Go.RowKit Go.Proofs.YtihiapjfdgoomaaW.PrintWords Go.Proofs.YtihiapjfdgoomaaW.PrintLast Go.Proofs.YtihiapjfdgoomaaW.PrintMore
attribute [local go_sem] max2_int min2_int max_two min_two max_three min_three max_four min_four   -- for this text's walks alone
set_option linter.unusedVariables false
set_option linter.unusedSimpArgs false

/-! ### platenlaw20_beyond: function 7 -/
mutual
def platenlaw20_beyond.l0 : Nat → Int → Int → Int → Int → Int → Int → List (S45) → Option (Bool)
  | 0, _, _, _, _, _, _, _ => none
  | k + 1, x3, x4, x102000, x102001, x102002, x102003, x102004 => if x4 < (x102004.length : Int) then (platenlaw20_beyond.j1 k x3 x4 (decide (x3 ≤ 2147483647)) x102000 x102001 x102002 x102003 x102004) else (platenlaw20_beyond.j1 k x3 x4 false x102000 x102001 x102002 x102003 x102004)
def platenlaw20_beyond.j1 : Nat → Int → Int → Bool → Int → Int → Int → Int → List (S45) → Option (Bool)
  | 0, _, _, _, _, _, _, _, _ => none
  | k + 1, x3, x4, x19, x102000, x102001, x102002, x102003, x102004 => if x19 = true then ((platenlaw20_more.f x3 32).bind fun t103 => (platenlaw20_beyond.l1 k t103 x4 0 x102000 x102001 x102002 x102003 x102004)) else (some (decide (x3 > 2147483647)))
def platenlaw20_beyond.l1 : Nat → Int → Int → Int → Int → Int → Int → Int → List (S45) → Option (Bool)
  | 0, _, _, _, _, _, _, _, _ => none
  | k + 1, x3, x4, x5, x102000, x102001, x102002, x102003, x102004 => if 0 ≤ x4 then (if x4 < (x102004.length : Int) then (if x5 < (((rd_T45 x102004 x4).f3).length : Int) then (platenlaw20_beyond.j3 k x3 x4 x5 (decide (x3 ≤ 2147483647)) x102000 x102001 x102002 x102003 x102004) else (platenlaw20_beyond.j3 k x3 x4 x5 false x102000 x102001 x102002 x102003 x102004)) else (none)) else (none)
def platenlaw20_beyond.j3 : Nat → Int → Int → Int → Bool → Int → Int → Int → Int → List (S45) → Option (Bool)
  | 0, _, _, _, _, _, _, _, _, _ => none
  | k + 1, x3, x4, x5, x36, x102000, x102001, x102002, x102003, x102004 => if x36 = true then ((platenlaw20_more.f x3 32).bind fun t105 => (platenlaw20_beyond.l2 k t105 x4 x5 0 x102000 x102001 x102002 x102003 x102004)) else (platenlaw20_beyond.l0 k x3 (wrap64 (x4 + 1)) x102000 x102001 x102002 x102003 x102004)
def platenlaw20_beyond.l2 : Nat → Int → Int → Int → Int → Int → Int → Int → Int → List (S45) → Option (Bool)
  | 0, _, _, _, _, _, _, _, _, _ => none
  | k + 1, x3, x4, x5, x6, x102000, x102001, x102002, x102003, x102004 => if 0 ≤ x4 then (if x4 < (x102004.length : Int) then (if 0 ≤ x5 then (if x5 < (((rd_T45 x102004 x4).f3).length : Int) then (if x6 < (((rd_T48 ((rd_T45 x102004 x4).f3) x5).f3).length : Int) then (platenlaw20_beyond.j5 k x3 x4 x5 x6 (decide (x3 ≤ 2147483647)) x102000 x102001 x102002 x102003 x102004) else (platenlaw20_beyond.j5 k x3 x4 x5 x6 false x102000 x102001 x102002 x102003 x102004)) else (none)) else (none)) else (none)) else (none)
def platenlaw20_beyond.j5 : Nat → Int → Int → Int → Int → Bool → Int → Int → Int → Int → List (S45) → Option (Bool)
  | 0, _, _, _, _, _, _, _, _, _, _ => none
  | k + 1, x3, x4, x5, x6, x57, x102000, x102001, x102002, x102003, x102004 => if x57 = true then ((platenlaw20_more.f x3 80).bind fun t108 => (if 0 ≤ x4 then (if x4 < (x102004.length : Int) then (if 0 ≤ x5 then (if x5 < (((rd_T45 x102004 x4).f3).length : Int) then (if 0 ≤ x6 then (if x6 < (((rd_T48 ((rd_T45 x102004 x4).f3) x5).f3).length : Int) then ((platenlaw20_more.f t108 (((rd_T50 ((rd_T48 ((rd_T45 x102004 x4).f3) x5).f3) x6).f2).size : Int)).bind fun t112 => (platenlaw20_beyond.l2 k t112 x4 x5 (wrap64 (x6 + 1)) x102000 x102001 x102002 x102003 x102004)) else (none)) else (none)) else (none)) else (none)) else (none)) else (none))) else (platenlaw20_beyond.l1 k x3 x4 (wrap64 (x5 + 1)) x102000 x102001 x102002 x102003 x102004)
end
def platenlaw20_beyond.f (k : Nat) (a0_0 : Int) (a0_1 : Int) (a0_2 : Int) (a0_3 : Int) (l0_4 : List (S45)) : Option (Bool) := (platenlaw20_more.f 64 (l0_4.length : Int)).bind fun t102 => (platenlaw20_beyond.l0 k t102 0 a0_0 a0_1 a0_2 a0_3 l0_4)
theorem platenlaw20_beyond.mono_l : ∀ k, (∀ y0 y1 y2 y3 y4 y5 y6, LeO (platenlaw20_beyond.l0 k y0 y1 y2 y3 y4 y5 y6) (platenlaw20_beyond.l0 (k + 1) y0 y1 y2 y3 y4 y5 y6)) ∧ (∀ y0 y1 y2 y3 y4 y5 y6 y7, LeO (platenlaw20_beyond.j1 k y0 y1 y2 y3 y4 y5 y6 y7) (platenlaw20_beyond.j1 (k + 1) y0 y1 y2 y3 y4 y5 y6 y7)) ∧ (∀ y0 y1 y2 y3 y4 y5 y6 y7, LeO (platenlaw20_beyond.l1 k y0 y1 y2 y3 y4 y5 y6 y7) (platenlaw20_beyond.l1 (k + 1) y0 y1 y2 y3 y4 y5 y6 y7)) ∧ (∀ y0 y1 y2 y3 y4 y5 y6 y7 y8, LeO (platenlaw20_beyond.j3 k y0 y1 y2 y3 y4 y5 y6 y7 y8) (platenlaw20_beyond.j3 (k + 1) y0 y1 y2 y3 y4 y5 y6 y7 y8)) ∧ (∀ y0 y1 y2 y3 y4 y5 y6 y7 y8, LeO (platenlaw20_beyond.l2 k y0 y1 y2 y3 y4 y5 y6 y7 y8) (platenlaw20_beyond.l2 (k + 1) y0 y1 y2 y3 y4 y5 y6 y7 y8)) ∧ (∀ y0 y1 y2 y3 y4 y5 y6 y7 y8 y9, LeO (platenlaw20_beyond.j5 k y0 y1 y2 y3 y4 y5 y6 y7 y8 y9) (platenlaw20_beyond.j5 (k + 1) y0 y1 y2 y3 y4 y5 y6 y7 y8 y9))
  | 0 => ⟨fun _ _ _ _ _ _ _ r h => by simp [platenlaw20_beyond.l0] at h, fun _ _ _ _ _ _ _ _ r h => by simp [platenlaw20_beyond.j1] at h, fun _ _ _ _ _ _ _ _ r h => by simp [platenlaw20_beyond.l1] at h, fun _ _ _ _ _ _ _ _ _ r h => by simp [platenlaw20_beyond.j3] at h, fun _ _ _ _ _ _ _ _ _ r h => by simp [platenlaw20_beyond.l2] at h, fun _ _ _ _ _ _ _ _ _ _ r h => by simp [platenlaw20_beyond.j5] at h⟩
  | k + 1 => by
    obtain ⟨ih0, ih1, ih2, ih3, ih4, ih5⟩ := platenlaw20_beyond.mono_l k
    refine ⟨?_, ?_, ?_, ?_, ?_, ?_⟩
    · intro y0 y1 y2 y3 y4 y5 y6
      unfold platenlaw20_beyond.l0
      repeat' first
      | (with_reducible exact ih0 _ _ _ _ _ _ _)
      | (with_reducible exact ih1 _ _ _ _ _ _ _ _)
      | (with_reducible exact ih2 _ _ _ _ _ _ _ _)
      | (with_reducible exact ih3 _ _ _ _ _ _ _ _ _)
      | (with_reducible exact ih4 _ _ _ _ _ _ _ _ _)
      | (with_reducible exact ih5 _ _ _ _ _ _ _ _ _ _)
      | (with_reducible exact LeO.refl _)
      | (with_reducible exact LeO.none _)
      | (with_reducible refine LeO.ite ?_ ?_)
      | (with_reducible refine LeO.bind ?_ (fun _ => ?_))
      | exact ih0 _ _ _ _ _ _ _
      | exact ih1 _ _ _ _ _ _ _ _
      | exact ih2 _ _ _ _ _ _ _ _
      | exact ih3 _ _ _ _ _ _ _ _ _
      | exact ih4 _ _ _ _ _ _ _ _ _
      | exact ih5 _ _ _ _ _ _ _ _ _ _
      | exact LeO.none _
      | refine LeO.ite ?_ ?_
      | refine LeO.bind ?_ (fun _ => ?_)
    · intro y0 y1 y2 y3 y4 y5 y6 y7
      unfold platenlaw20_beyond.j1
      repeat' first
      | (with_reducible exact ih0 _ _ _ _ _ _ _)
      | (with_reducible exact ih1 _ _ _ _ _ _ _ _)
      | (with_reducible exact ih2 _ _ _ _ _ _ _ _)
      | (with_reducible exact ih3 _ _ _ _ _ _ _ _ _)
      | (with_reducible exact ih4 _ _ _ _ _ _ _ _ _)
      | (with_reducible exact ih5 _ _ _ _ _ _ _ _ _ _)
      | (with_reducible exact LeO.refl _)
      | (with_reducible exact LeO.none _)
      | (with_reducible refine LeO.ite ?_ ?_)
      | (with_reducible refine LeO.bind ?_ (fun _ => ?_))
      | exact ih0 _ _ _ _ _ _ _
      | exact ih1 _ _ _ _ _ _ _ _
      | exact ih2 _ _ _ _ _ _ _ _
      | exact ih3 _ _ _ _ _ _ _ _ _
      | exact ih4 _ _ _ _ _ _ _ _ _
      | exact ih5 _ _ _ _ _ _ _ _ _ _
      | exact LeO.none _
      | refine LeO.ite ?_ ?_
      | refine LeO.bind ?_ (fun _ => ?_)
    · intro y0 y1 y2 y3 y4 y5 y6 y7
      unfold platenlaw20_beyond.l1
      repeat' first
      | (with_reducible exact ih0 _ _ _ _ _ _ _)
      | (with_reducible exact ih1 _ _ _ _ _ _ _ _)
      | (with_reducible exact ih2 _ _ _ _ _ _ _ _)
      | (with_reducible exact ih3 _ _ _ _ _ _ _ _ _)
      | (with_reducible exact ih4 _ _ _ _ _ _ _ _ _)
      | (with_reducible exact ih5 _ _ _ _ _ _ _ _ _ _)
      | (with_reducible exact LeO.refl _)
      | (with_reducible exact LeO.none _)
      | (with_reducible refine LeO.ite ?_ ?_)
      | (with_reducible refine LeO.bind ?_ (fun _ => ?_))
      | exact ih0 _ _ _ _ _ _ _
      | exact ih1 _ _ _ _ _ _ _ _
      | exact ih2 _ _ _ _ _ _ _ _
      | exact ih3 _ _ _ _ _ _ _ _ _
      | exact ih4 _ _ _ _ _ _ _ _ _
      | exact ih5 _ _ _ _ _ _ _ _ _ _
      | exact LeO.none _
      | refine LeO.ite ?_ ?_
      | refine LeO.bind ?_ (fun _ => ?_)
    · intro y0 y1 y2 y3 y4 y5 y6 y7 y8
      unfold platenlaw20_beyond.j3
      repeat' first
      | (with_reducible exact ih0 _ _ _ _ _ _ _)
      | (with_reducible exact ih1 _ _ _ _ _ _ _ _)
      | (with_reducible exact ih2 _ _ _ _ _ _ _ _)
      | (with_reducible exact ih3 _ _ _ _ _ _ _ _ _)
      | (with_reducible exact ih4 _ _ _ _ _ _ _ _ _)
      | (with_reducible exact ih5 _ _ _ _ _ _ _ _ _ _)
      | (with_reducible exact LeO.refl _)
      | (with_reducible exact LeO.none _)
      | (with_reducible refine LeO.ite ?_ ?_)
      | (with_reducible refine LeO.bind ?_ (fun _ => ?_))
      | exact ih0 _ _ _ _ _ _ _
      | exact ih1 _ _ _ _ _ _ _ _
      | exact ih2 _ _ _ _ _ _ _ _
      | exact ih3 _ _ _ _ _ _ _ _ _
      | exact ih4 _ _ _ _ _ _ _ _ _
      | exact ih5 _ _ _ _ _ _ _ _ _ _
      | exact LeO.none _
      | refine LeO.ite ?_ ?_
      | refine LeO.bind ?_ (fun _ => ?_)
    · intro y0 y1 y2 y3 y4 y5 y6 y7 y8
      unfold platenlaw20_beyond.l2
      repeat' first
      | (with_reducible exact ih0 _ _ _ _ _ _ _)
      | (with_reducible exact ih1 _ _ _ _ _ _ _ _)
      | (with_reducible exact ih2 _ _ _ _ _ _ _ _)
      | (with_reducible exact ih3 _ _ _ _ _ _ _ _ _)
      | (with_reducible exact ih4 _ _ _ _ _ _ _ _ _)
      | (with_reducible exact ih5 _ _ _ _ _ _ _ _ _ _)
      | (with_reducible exact LeO.refl _)
      | (with_reducible exact LeO.none _)
      | (with_reducible refine LeO.ite ?_ ?_)
      | (with_reducible refine LeO.bind ?_ (fun _ => ?_))
      | exact ih0 _ _ _ _ _ _ _
      | exact ih1 _ _ _ _ _ _ _ _
      | exact ih2 _ _ _ _ _ _ _ _
      | exact ih3 _ _ _ _ _ _ _ _ _
      | exact ih4 _ _ _ _ _ _ _ _ _
      | exact ih5 _ _ _ _ _ _ _ _ _ _
      | exact LeO.none _
      | refine LeO.ite ?_ ?_
      | refine LeO.bind ?_ (fun _ => ?_)
    · intro y0 y1 y2 y3 y4 y5 y6 y7 y8 y9
      unfold platenlaw20_beyond.j5
      repeat' first
      | (with_reducible exact ih0 _ _ _ _ _ _ _)
      | (with_reducible exact ih1 _ _ _ _ _ _ _ _)
      | (with_reducible exact ih2 _ _ _ _ _ _ _ _)
      | (with_reducible exact ih3 _ _ _ _ _ _ _ _ _)
      | (with_reducible exact ih4 _ _ _ _ _ _ _ _ _)
      | (with_reducible exact ih5 _ _ _ _ _ _ _ _ _ _)
      | (with_reducible exact LeO.refl _)
      | (with_reducible exact LeO.none _)
      | (with_reducible refine LeO.ite ?_ ?_)
      | (with_reducible refine LeO.bind ?_ (fun _ => ?_))
      | exact ih0 _ _ _ _ _ _ _
      | exact ih1 _ _ _ _ _ _ _ _
      | exact ih2 _ _ _ _ _ _ _ _
      | exact ih3 _ _ _ _ _ _ _ _ _
      | exact ih4 _ _ _ _ _ _ _ _ _
      | exact ih5 _ _ _ _ _ _ _ _ _ _
      | exact LeO.none _
      | refine LeO.ite ?_ ?_
      | refine LeO.bind ?_ (fun _ => ?_)
theorem platenlaw20_beyond.mono : ∀ a0 a1 a2 a3 a4 k, LeO (platenlaw20_beyond.f k a0 a1 a2 a3 a4) (platenlaw20_beyond.f (k + 1) a0 a1 a2 a3 a4) := by
  intro a0 a1 a2 a3 a4 k
  obtain ⟨ih0, ih1, ih2, ih3, ih4, ih5⟩ := platenlaw20_beyond.mono_l k
  unfold platenlaw20_beyond.f
  repeat' first
      | (with_reducible exact ih0 _ _ _ _ _ _ _)
      | (with_reducible exact ih1 _ _ _ _ _ _ _ _)
      | (with_reducible exact ih2 _ _ _ _ _ _ _ _)
      | (with_reducible exact ih3 _ _ _ _ _ _ _ _ _)
      | (with_reducible exact ih4 _ _ _ _ _ _ _ _ _)
      | (with_reducible exact ih5 _ _ _ _ _ _ _ _ _ _)
      | (with_reducible exact LeO.refl _)
      | (with_reducible exact LeO.none _)
      | (with_reducible refine LeO.ite ?_ ?_)
      | (with_reducible refine LeO.bind ?_ (fun _ => ?_))
      | exact ih0 _ _ _ _ _ _ _
      | exact ih1 _ _ _ _ _ _ _ _
      | exact ih2 _ _ _ _ _ _ _ _
      | exact ih3 _ _ _ _ _ _ _ _ _
      | exact ih4 _ _ _ _ _ _ _ _ _
      | exact ih5 _ _ _ _ _ _ _ _ _ _
      | exact LeO.none _
      | refine LeO.ite ?_ ?_
      | refine LeO.bind ?_ (fun _ => ?_)
set_option maxHeartbeats 8000000 in
set_option maxRecDepth 100000 in
theorem platenlaw20_beyond.calls (k : Nat) (a0_0 : Int) (a0_1 : Int) (a0_2 : Int) (a0_3 : Int) (A0_4 : Option Addr) (c0_4 : Nat) (l0_4 : List (S45)) (r : Bool) (w : World) (hr0_4 : Kd.C k45 w A0_4 l0_4.length l0_4) (hc0_4 : l0_4.length ≤ c0_4) (h : platenlaw20_beyond.f k a0_0 a0_1 a0_2 a0_3 l0_4 = some r) :
    Calls Try.prog 7 #[.agg #[.int .i64 a0_0, .int .i64 a0_1, .int .i64 a0_2, .int .i64 a0_3, .slice A0_4 l0_4.length c0_4]] w fun e w' => e = .returned (.bool r) ∧ Below w.heap.size w w' := by
  have hu27 := Try.underlying27
  have HR0_4 := Aside0.mk hr0_4
  have HC0_4 := Aside0.mk hc0_4
  clear hr0_4 hc0_4
  have HB := Aside0.mk (Below.refl w.heap.size w)
  have H : ((platenlaw20_more.f 64 (l0_4.length : Int)).bind fun t102 => (platenlaw20_beyond.l0 k t102 0 a0_0 a0_1 a0_2 a0_3 l0_4)) = some r := h
  clear h
  replace H := Option.bind_eq_some_iff.mp H
  obtain ⟨t102, A20, H⟩ := H
  replace H : (platenlaw20_beyond.l0 k t102 0 a0_0 a0_1 a0_2 a0_3 l0_4) = some r := H
  have A2 := Aside0.mk A20
  clear A20
  have H' := Aside0.mk H
  clear H
  go_enter Try.func7, Try.ntmps7
  go_wp2_with (first | ((with_reducible refine gate_dst (N := 1) rfl ?_); refine box_event ?hg (N := 1) ?hd (cs := #[.int .i64 a0_0, .int .i64 a0_1, .int .i64 a0_2, .int .i64 a0_3, .slice A0_4 l0_4.length c0_4]) (t := 27) ?hr ?_; (case hd => rfl); (case hg => rfl); (case hr => first | (go_simp; done) | (go_simp; rfl)); intro gb101 hg w3 hbox hb; have n0_ := Aside0.mk (below_step (by repeat (first | (with_reducible first | exact HB.out | apply below_alloc | apply pw_below_drewN | apply below_drew1) | exact HB.out)) hb); have n1_ := Aside0.mk (hbox); have n2_ := Aside0.mk ((by rw [hg]; exact (below_size (by repeat (first | (with_reducible first | exact HB.out | apply below_alloc | apply pw_below_drewN | apply below_drew1) | exact HB.out))) : w.heap.size ≤ gb101)); have n3_ := Aside0.mk ((by rw [hg]; exact (below_size (by repeat (first | (with_reducible first | exact HB.out | apply below_alloc | apply pw_below_drewN | apply below_drew1) | exact HB.out))) : w.heap.size ≤ gb101)); clear HB; have HB := n0_; have BK101 := n1_; have GW101 := n2_; have GE101 := n3_; clear n0_ n1_ n2_ n3_; clear hb hbox hg; have hcz4_0 : w3.cell? ⟨gb101, 0, none⟩ = some (.int .i64 a0_0) := (blk_cell BK101.out 0).trans rfl; have hcz4_1 : w3.cell? ⟨gb101, 1, none⟩ = some (.int .i64 a0_1) := (blk_cell BK101.out 1).trans rfl; have hcz4_2 : w3.cell? ⟨gb101, 2, none⟩ = some (.int .i64 a0_2) := (blk_cell BK101.out 2).trans rfl; have hcz4_3 : w3.cell? ⟨gb101, 3, none⟩ = some (.int .i64 a0_3) := (blk_cell BK101.out 3).trans rfl; have hcz4_4 : w3.cell? ⟨gb101, 4, none⟩ = some (.slice A0_4 l0_4.length c0_4) := (blk_cell BK101.out 4).trans rfl; have hfz4_0 := blk_frozen BK101.out 0; have hfz4_1 := blk_frozen BK101.out 1; have hfz4_2 := blk_frozen BK101.out 2; have hfz4_3 := blk_frozen BK101.out 3; have hfz4_4 := blk_frozen BK101.out 4) | ((with_reducible refine gate_callee (f := 18) rfl ?_); refine goesL_ (some 10) rfl rfl Try.func18 (by kernel_rfl) rfl #[.int .i64 64, .int .i64 (l0_4.length : Int)] rfl (by (try simp only [List.map_toArray, List.map_cons, List.map_nil]); first | done | rfl | (simp only [List.length_drop, List.length_take]; rfl)) ?_; (with_reducible refine (platenlaw20_more.calls 64 (l0_4.length : Int) t102 _ A2.out).mono ?_); rintro e w' ⟨rfl, ⟨nd, rfl⟩⟩; refine ⟨_, rfl, ?_⟩))
  go_loopg [3, 4] k (fun kq v3 v4 w' => ∃ (x3_1 : Int) (x4_1 : Int), v3 = .int .i64 x3_1 ∧ v4 = .int .i64 x4_1 ∧ Aside0 (platenlaw20_beyond.l0 kq x3_1 x4_1 a0_0 a0_1 a0_2 a0_3 l0_4 = some r) ∧ Aside0 (kq ≤ k) ∧ Aside0 (w'.heap[gb101]? = some (.cells #[.int .i64 a0_0, .int .i64 a0_1, .int .i64 a0_2, .int .i64 a0_3, (.slice A0_4 l0_4.length c0_4)] 27 (0, 0))) ∧ Aside0 (Below w.heap.size w w'))
  case atStart => exact ⟨(t102), (0), (by first | rfl | (simp; done) | (simp [*]; done)), (by first | rfl | (simp; done) | (simp [*]; done)), H', ⟨Nat.le_refl _⟩, ⟨by (with_reducible repeat (first | refine blk_drewN ?_ _ | refine blk_drew ?_ | refine blk_alloc ?_ _)); exact BK101.out⟩, ⟨by repeat (first | (with_reducible first | exact HB.out | apply below_alloc | apply pw_below_drewN | apply below_drew1 | refine below_set ?_ GE101.out) | exact HB.out)⟩⟩
  case round =>
    clear H'
    try clear c1
    try clear p2
    try clear hcz4_0
    try clear hcz4_1
    try clear hcz4_2
    try clear hcz4_3
    try clear hcz4_4
    try clear hfz4_0
    try clear hfz4_1
    try clear hfz4_2
    try clear hfz4_3
    try clear hfz4_4
    obtain ⟨x3_1, x4_1, rfl, rfl, HA, HK1, BK101, HB⟩ := hrel
    cases gk with
    | zero => exact absurd HA.out (by simp [platenlaw20_beyond.l0])
    | succ k1 =>
      have H := HA.out
      clear HA
      simp only [platenlaw20_beyond.l0] at H
      have HC5 := Aside0.mk H
      clear H
      go_upto_region 3 with (fail)
      go_cut [19] (fun v19 wc => ∃ (kq : Nat) (x19_4 : Bool), v19 = .bool x19_4 ∧ Aside0 (platenlaw20_beyond.j1 kq x3_1 x4_1 x19_4 a0_0 a0_1 a0_2 a0_3 l0_4 = some r) ∧ Aside0 (kq ≤ k1) ∧ Aside0 (wc.heap[gb101]? = some (.cells #[.int .i64 a0_0, .int .i64 a0_1, .int .i64 a0_2, .int .i64 a0_3, (.slice A0_4 l0_4.length c0_4)] 27 (0, 0))) ∧ Aside0 (Below w.heap.size w wc))
      case first =>
        have H := HC5.out
        clear HC5
        by_cases c6 : x4_1 < (l0_4.length : Int)
        · rw [if_pos c6] at H
          have c6b0 : decide (x4_1 < (l0_4.length : Int)) = true := decide_eq_true c6
          clear c6
          (first | rw [c6b0] | (simp only [i64_w, i32_w]; rw [c6b0]) | skip)
          have H' := Aside0.mk H
          clear H
          have hcz7_0 : wr.cell? ⟨gb101, 0, none⟩ = some (.int .i64 a0_0) := (blk_cell BK101.out 0).trans rfl
          have hcz7_1 : wr.cell? ⟨gb101, 1, none⟩ = some (.int .i64 a0_1) := (blk_cell BK101.out 1).trans rfl
          have hcz7_2 : wr.cell? ⟨gb101, 2, none⟩ = some (.int .i64 a0_2) := (blk_cell BK101.out 2).trans rfl
          have hcz7_3 : wr.cell? ⟨gb101, 3, none⟩ = some (.int .i64 a0_3) := (blk_cell BK101.out 3).trans rfl
          have hcz7_4 : wr.cell? ⟨gb101, 4, none⟩ = some (.slice A0_4 l0_4.length c0_4) := (blk_cell BK101.out 4).trans rfl
          have hfz7_0 := blk_frozen BK101.out 0
          have hfz7_1 := blk_frozen BK101.out 1
          have hfz7_2 := blk_frozen BK101.out 2
          have hfz7_3 := blk_frozen BK101.out 3
          have hfz7_4 := blk_frozen BK101.out 4
          go_wp2
          go_meet
          case rel => exact ⟨_, (decide (x3_1 ≤ 2147483647)), (by first | rfl | (simp; done) | (simp [*]; done)), H', ⟨by have := HK1.out; first | omega | exact Nat.le_refl _⟩, ⟨by (with_reducible repeat (first | refine blk_drewN ?_ _ | refine blk_drew ?_ | refine blk_alloc ?_ _)); exact BK101.out⟩, ⟨by repeat (first | (with_reducible first | exact HB.out | apply below_alloc | apply pw_below_drewN | apply below_drew1 | refine below_set ?_ GE101.out) | exact HB.out)⟩⟩
        · rw [if_neg c6] at H
          have c6b0 : decide (x4_1 < (l0_4.length : Int)) = false := decide_eq_false c6
          clear c6
          (first | rw [c6b0] | (simp only [i64_w, i32_w]; rw [c6b0]) | skip)
          have H' := Aside0.mk H
          clear H
          have hcz8_0 : wr.cell? ⟨gb101, 0, none⟩ = some (.int .i64 a0_0) := (blk_cell BK101.out 0).trans rfl
          have hcz8_1 : wr.cell? ⟨gb101, 1, none⟩ = some (.int .i64 a0_1) := (blk_cell BK101.out 1).trans rfl
          have hcz8_2 : wr.cell? ⟨gb101, 2, none⟩ = some (.int .i64 a0_2) := (blk_cell BK101.out 2).trans rfl
          have hcz8_3 : wr.cell? ⟨gb101, 3, none⟩ = some (.int .i64 a0_3) := (blk_cell BK101.out 3).trans rfl
          have hcz8_4 : wr.cell? ⟨gb101, 4, none⟩ = some (.slice A0_4 l0_4.length c0_4) := (blk_cell BK101.out 4).trans rfl
          have hfz8_0 := blk_frozen BK101.out 0
          have hfz8_1 := blk_frozen BK101.out 1
          have hfz8_2 := blk_frozen BK101.out 2
          have hfz8_3 := blk_frozen BK101.out 3
          have hfz8_4 := blk_frozen BK101.out 4
          go_wp2
          go_meet
          case rel => exact ⟨_, (false), (by first | rfl | (simp; done) | (simp [*]; done)), H', ⟨by have := HK1.out; first | omega | exact Nat.le_refl _⟩, ⟨by (with_reducible repeat (first | refine blk_drewN ?_ _ | refine blk_drew ?_ | refine blk_alloc ?_ _)); exact BK101.out⟩, ⟨by repeat (first | (with_reducible first | exact HB.out | apply below_alloc | apply pw_below_drewN | apply below_drew1 | refine below_set ?_ GE101.out) | exact HB.out)⟩⟩
      case rest =>
        clear HC5
        try clear c1
        try clear p2
        try clear c6
        try clear c6b0
        try clear c7
        try clear hcz4_0
        try clear hcz4_1
        try clear hcz4_2
        try clear hcz4_3
        try clear hcz4_4
        try clear hcz7_0
        try clear hcz7_1
        try clear hcz7_2
        try clear hcz7_3
        try clear hcz7_4
        try clear hcz8_0
        try clear hcz8_1
        try clear hcz8_2
        try clear hcz8_3
        try clear hcz8_4
        try clear hfz4_0
        try clear hfz4_1
        try clear hfz4_2
        try clear hfz4_3
        try clear hfz4_4
        try clear hfz7_0
        try clear hfz7_1
        try clear hfz7_2
        try clear hfz7_3
        try clear hfz7_4
        try clear hfz8_0
        try clear hfz8_1
        try clear hfz8_2
        try clear hfz8_3
        try clear hfz8_4
        try clear p2
        obtain ⟨kq, x19_4, rfl, HA, HJ4, BK101, HB⟩ := hcut
        cases kq with
        | zero => exact absurd HA.out (by simp [platenlaw20_beyond.j1])
        | succ kj4 =>
          have H := HA.out
          clear HA
          simp only [platenlaw20_beyond.j1] at H
          by_cases c9 : x19_4 = true
          · subst c9
            have H1 : ((platenlaw20_more.f x3_1 32).bind fun t103 => (platenlaw20_beyond.l1 kj4 t103 x4_1 0 a0_0 a0_1 a0_2 a0_3 l0_4)) = some r := by rw [if_pos rfl] at H; exact H
            clear H
            have H := H1
            clear H1
            replace H := Option.bind_eq_some_iff.mp H
            obtain ⟨t103, A100, H⟩ := H
            replace H : (platenlaw20_beyond.l1 kj4 t103 x4_1 0 a0_0 a0_1 a0_2 a0_3 l0_4) = some r := H
            have A10 := Aside0.mk A100
            clear A100
            have H' := Aside0.mk H
            clear H
            go_wp2_with (first | ((with_reducible refine gate_callee (f := 18) rfl ?_); refine goesL_ (some 23) rfl rfl Try.func18 (by kernel_rfl) rfl #[.int .i64 x3_1, .int .i64 32] rfl (by (try simp only [List.map_toArray, List.map_cons, List.map_nil]); first | done | rfl | (simp only [List.length_drop, List.length_take]; rfl)) ?_; (with_reducible refine (platenlaw20_more.calls x3_1 32 t103 _ A10.out).mono ?_); rintro e w' ⟨rfl, ⟨nd, rfl⟩⟩; refine ⟨_, rfl, ?_⟩))
            go_loopg [3, 5] kj4 (fun kq v3 v5 w' => ∃ (x3_3 : Int) (x5_3 : Int), v3 = .int .i64 x3_3 ∧ v5 = .int .i64 x5_3 ∧ Aside0 (platenlaw20_beyond.l1 kq x3_3 x4_1 x5_3 a0_0 a0_1 a0_2 a0_3 l0_4 = some r) ∧ Aside0 (kq ≤ kj4) ∧ Aside0 (w'.heap[gb101]? = some (.cells #[.int .i64 a0_0, .int .i64 a0_1, .int .i64 a0_2, .int .i64 a0_3, (.slice A0_4 l0_4.length c0_4)] 27 (0, 0))) ∧ Aside0 (Below w.heap.size w w'))
            case atStart => exact ⟨(t103), (0), (by first | rfl | (simp; done) | (simp [*]; done)), (by first | rfl | (simp; done) | (simp [*]; done)), H', ⟨Nat.le_refl _⟩, ⟨by (with_reducible repeat (first | refine blk_drewN ?_ _ | refine blk_drew ?_ | refine blk_alloc ?_ _)); exact BK101.out⟩, ⟨by repeat (first | (with_reducible first | exact HB.out | apply below_alloc | apply pw_below_drewN | apply below_drew1 | refine below_set ?_ GE101.out) | exact HB.out)⟩⟩
            case round =>
              clear H'
              try clear c1
              try clear p2
              try clear c6
              try clear c6b0
              try clear c7
              try clear c9
              try clear hcz4_0
              try clear hcz4_1
              try clear hcz4_2
              try clear hcz4_3
              try clear hcz4_4
              try clear hcz7_0
              try clear hcz7_1
              try clear hcz7_2
              try clear hcz7_3
              try clear hcz7_4
              try clear hcz8_0
              try clear hcz8_1
              try clear hcz8_2
              try clear hcz8_3
              try clear hcz8_4
              try clear hfz4_0
              try clear hfz4_1
              try clear hfz4_2
              try clear hfz4_3
              try clear hfz4_4
              try clear hfz7_0
              try clear hfz7_1
              try clear hfz7_2
              try clear hfz7_3
              try clear hfz7_4
              try clear hfz8_0
              try clear hfz8_1
              try clear hfz8_2
              try clear hfz8_3
              try clear hfz8_4
              try clear p2
              obtain ⟨x3_3, x5_3, rfl, rfl, HA, HK3, BK101, HB⟩ := hrel
              cases gk with
              | zero => exact absurd HA.out (by simp [platenlaw20_beyond.l1])
              | succ k3 =>
                have H := HA.out
                clear HA
                simp only [platenlaw20_beyond.l1] at H
                have HC11 := Aside0.mk H
                clear H
                go_upto_region 7 with (fail)
                go_cut [36] (fun v36 wc => ∃ (kq : Nat) (x36_10 : Bool), v36 = .bool x36_10 ∧ Aside0 (platenlaw20_beyond.j3 kq x3_3 x4_1 x5_3 x36_10 a0_0 a0_1 a0_2 a0_3 l0_4 = some r) ∧ Aside0 (kq ≤ k3) ∧ Aside0 (wc.heap[gb101]? = some (.cells #[.int .i64 a0_0, .int .i64 a0_1, .int .i64 a0_2, .int .i64 a0_3, (.slice A0_4 l0_4.length c0_4)] 27 (0, 0))) ∧ Aside0 (Below w.heap.size w wc))
                case first =>
                  have H := HC11.out
                  clear HC11
                  by_cases c12 : 0 ≤ x4_1
                  · rw [if_pos c12] at H
                    have c12b0 : decide (0 ≤ x4_1) = true := decide_eq_true c12
                    clear c12
                    (first | rw [c12b0] | (simp only [i64_w, i32_w]; rw [c12b0]) | skip)
                    by_cases c13 : x4_1 < (l0_4.length : Int)
                    · rw [if_pos c13] at H
                      have c13b0 : decide (x4_1 < (l0_4.length : Int)) = true := decide_eq_true c13
                      clear c13
                      by_cases c14 : x5_3 < (((rd_T45 l0_4 x4_1).f3).length : Int)
                      · rw [if_pos c14] at H
                        have c14b0 : decide (x5_3 < (((rd_T45 l0_4 x4_1).f3).length : Int)) = true := decide_eq_true c14
                        clear c14
                        have H' := Aside0.mk H
                        clear H
                        have hcz15_0 : wr.cell? ⟨gb101, 0, none⟩ = some (.int .i64 a0_0) := (blk_cell BK101.out 0).trans rfl
                        have hcz15_1 : wr.cell? ⟨gb101, 1, none⟩ = some (.int .i64 a0_1) := (blk_cell BK101.out 1).trans rfl
                        have hcz15_2 : wr.cell? ⟨gb101, 2, none⟩ = some (.int .i64 a0_2) := (blk_cell BK101.out 2).trans rfl
                        have hcz15_3 : wr.cell? ⟨gb101, 3, none⟩ = some (.int .i64 a0_3) := (blk_cell BK101.out 3).trans rfl
                        have hcz15_4 : wr.cell? ⟨gb101, 4, none⟩ = some (.slice A0_4 l0_4.length c0_4) := (blk_cell BK101.out 4).trans rfl
                        have hfz15_0 := blk_frozen BK101.out 0
                        have hfz15_1 := blk_frozen BK101.out 1
                        have hfz15_2 := blk_frozen BK101.out 2
                        have hfz15_3 := blk_frozen BK101.out 3
                        have hfz15_4 := blk_frozen BK101.out 4
                        have p104 : 0 ≤ (x4_1 : Int) := of_decide_eq_true (by first | (with_reducible assumption) | assumption)
                        have q104 : x4_1 < (l0_4.length : Int) := of_decide_eq_true (by first | (with_reducible assumption) | assumption)
                        obtain ⟨ad104, A104_3, c104_3, e104, hx104_0, hx104_1, hx104_2, hx104_3, hl104_3, hi104_3⟩ := at_T45 HR0_4.out x4_1 p104 q104
                        cases e104
                        replace hx104_0 := (HB.out.cell (World.block_lt_of_cell? w _ hx104_0)).trans hx104_0
                        replace hx104_1 := (HB.out.cell (World.block_lt_of_cell? w _ hx104_1)).trans hx104_1
                        replace hx104_2 := (HB.out.cell (World.block_lt_of_cell? w _ hx104_2)).trans hx104_2
                        replace hx104_3 := (HB.out.cell (World.block_lt_of_cell? w _ hx104_3)).trans hx104_3
                        have HR104_3 := Aside0.mk hi104_3
                        have HC104_3 := Aside0.mk hl104_3
                        clear hi104_3 hl104_3
                        replace p104 := eq_true p104
                        replace q104 := eq_true q104
                        go_wp2
                        go_meet
                        case rel => exact ⟨_, (decide (x3_3 ≤ 2147483647)), (by first | rfl | (simp; done) | (simp [*]; done)), H', ⟨by have := HK1.out; have := HJ4.out; have := HK3.out; first | omega | exact Nat.le_refl _⟩, ⟨by (with_reducible repeat (first | refine blk_drewN ?_ _ | refine blk_drew ?_ | refine blk_alloc ?_ _)); exact BK101.out⟩, ⟨by repeat (first | (with_reducible first | exact HB.out | apply below_alloc | apply pw_below_drewN | apply below_drew1 | refine below_set ?_ GE101.out) | exact HB.out)⟩⟩
                      · rw [if_neg c14] at H
                        have c14b0 : decide (x5_3 < (((rd_T45 l0_4 x4_1).f3).length : Int)) = false := decide_eq_false c14
                        clear c14
                        have H' := Aside0.mk H
                        clear H
                        have hcz16_0 : wr.cell? ⟨gb101, 0, none⟩ = some (.int .i64 a0_0) := (blk_cell BK101.out 0).trans rfl
                        have hcz16_1 : wr.cell? ⟨gb101, 1, none⟩ = some (.int .i64 a0_1) := (blk_cell BK101.out 1).trans rfl
                        have hcz16_2 : wr.cell? ⟨gb101, 2, none⟩ = some (.int .i64 a0_2) := (blk_cell BK101.out 2).trans rfl
                        have hcz16_3 : wr.cell? ⟨gb101, 3, none⟩ = some (.int .i64 a0_3) := (blk_cell BK101.out 3).trans rfl
                        have hcz16_4 : wr.cell? ⟨gb101, 4, none⟩ = some (.slice A0_4 l0_4.length c0_4) := (blk_cell BK101.out 4).trans rfl
                        have hfz16_0 := blk_frozen BK101.out 0
                        have hfz16_1 := blk_frozen BK101.out 1
                        have hfz16_2 := blk_frozen BK101.out 2
                        have hfz16_3 := blk_frozen BK101.out 3
                        have hfz16_4 := blk_frozen BK101.out 4
                        have p104 : 0 ≤ (x4_1 : Int) := of_decide_eq_true (by first | (with_reducible assumption) | assumption)
                        have q104 : x4_1 < (l0_4.length : Int) := of_decide_eq_true (by first | (with_reducible assumption) | assumption)
                        obtain ⟨ad104, A104_3, c104_3, e104, hx104_0, hx104_1, hx104_2, hx104_3, hl104_3, hi104_3⟩ := at_T45 HR0_4.out x4_1 p104 q104
                        cases e104
                        replace hx104_0 := (HB.out.cell (World.block_lt_of_cell? w _ hx104_0)).trans hx104_0
                        replace hx104_1 := (HB.out.cell (World.block_lt_of_cell? w _ hx104_1)).trans hx104_1
                        replace hx104_2 := (HB.out.cell (World.block_lt_of_cell? w _ hx104_2)).trans hx104_2
                        replace hx104_3 := (HB.out.cell (World.block_lt_of_cell? w _ hx104_3)).trans hx104_3
                        have HR104_3 := Aside0.mk hi104_3
                        have HC104_3 := Aside0.mk hl104_3
                        clear hi104_3 hl104_3
                        replace p104 := eq_true p104
                        replace q104 := eq_true q104
                        go_wp2
                        go_meet
                        case rel => exact ⟨_, (false), (by first | rfl | (simp; done) | (simp [*]; done)), H', ⟨by have := HK1.out; have := HJ4.out; have := HK3.out; first | omega | exact Nat.le_refl _⟩, ⟨by (with_reducible repeat (first | refine blk_drewN ?_ _ | refine blk_drew ?_ | refine blk_alloc ?_ _)); exact BK101.out⟩, ⟨by repeat (first | (with_reducible first | exact HB.out | apply below_alloc | apply pw_below_drewN | apply below_drew1 | refine below_set ?_ GE101.out) | exact HB.out)⟩⟩
                    · rw [if_neg c13] at H
                      exact absurd H (by simp)
                  · rw [if_neg c12] at H
                    exact absurd H (by simp)
                case rest =>
                  clear HC11
                  try clear c1
                  try clear p1
                  try clear q1
                  try clear hx1
                  try clear p2
                  try clear c6
                  try clear c6b0
                  try clear c7
                  try clear c9
                  try clear c10
                  try clear p10
                  try clear q10
                  try clear hx10
                  try clear c12
                  try clear c12b0
                  try clear c13
                  try clear c13b0
                  try clear c14
                  try clear c14b0
                  try clear hcz15_0
                  try clear hcz15_1
                  try clear hcz15_2
                  try clear hcz15_3
                  try clear hcz15_4
                  try clear hcz16_0
                  try clear hcz16_1
                  try clear hcz16_2
                  try clear hcz16_3
                  try clear hcz16_4
                  try clear hcz4_0
                  try clear hcz4_1
                  try clear hcz4_2
                  try clear hcz4_3
                  try clear hcz4_4
                  try clear hcz7_0
                  try clear hcz7_1
                  try clear hcz7_2
                  try clear hcz7_3
                  try clear hcz7_4
                  try clear hcz8_0
                  try clear hcz8_1
                  try clear hcz8_2
                  try clear hcz8_3
                  try clear hcz8_4
                  try clear hfz15_0
                  try clear hfz15_1
                  try clear hfz15_2
                  try clear hfz15_3
                  try clear hfz15_4
                  try clear hfz16_0
                  try clear hfz16_1
                  try clear hfz16_2
                  try clear hfz16_3
                  try clear hfz16_4
                  try clear hfz4_0
                  try clear hfz4_1
                  try clear hfz4_2
                  try clear hfz4_3
                  try clear hfz4_4
                  try clear hfz7_0
                  try clear hfz7_1
                  try clear hfz7_2
                  try clear hfz7_3
                  try clear hfz7_4
                  try clear hfz8_0
                  try clear hfz8_1
                  try clear hfz8_2
                  try clear hfz8_3
                  try clear hfz8_4
                  try clear hx104_0
                  try clear hx104_1
                  try clear hx104_2
                  try clear hx104_3
                  try clear p104
                  try clear p2
                  try clear q104
                  obtain ⟨kq, x36_10, rfl, HA, HJ10, BK101, HB⟩ := hcut
                  cases kq with
                  | zero => exact absurd HA.out (by simp [platenlaw20_beyond.j3])
                  | succ kj10 =>
                    have H := HA.out
                    clear HA
                    simp only [platenlaw20_beyond.j3] at H
                    by_cases c17 : x36_10 = true
                    · subst c17
                      have H1 : ((platenlaw20_more.f x3_3 32).bind fun t105 => (platenlaw20_beyond.l2 kj10 t105 x4_1 x5_3 0 a0_0 a0_1 a0_2 a0_3 l0_4)) = some r := by rw [if_pos rfl] at H; exact H
                      clear H
                      have H := H1
                      clear H1
                      replace H := Option.bind_eq_some_iff.mp H
                      obtain ⟨t105, A180, H⟩ := H
                      replace H : (platenlaw20_beyond.l2 kj10 t105 x4_1 x5_3 0 a0_0 a0_1 a0_2 a0_3 l0_4) = some r := H
                      have A18 := Aside0.mk A180
                      clear A180
                      have H' := Aside0.mk H
                      clear H
                      go_wp2_with (first | ((with_reducible refine gate_callee (f := 18) rfl ?_); refine goesL_ (some 40) rfl rfl Try.func18 (by kernel_rfl) rfl #[.int .i64 x3_3, .int .i64 32] rfl (by (try simp only [List.map_toArray, List.map_cons, List.map_nil]); first | done | rfl | (simp only [List.length_drop, List.length_take]; rfl)) ?_; (with_reducible refine (platenlaw20_more.calls x3_3 32 t105 _ A18.out).mono ?_); rintro e w' ⟨rfl, ⟨nd, rfl⟩⟩; refine ⟨_, rfl, ?_⟩))
                      go_loopg [3, 6] kj10 (fun kq v3 v6 w' => ∃ (x3_5 : Int) (x6_5 : Int), v3 = .int .i64 x3_5 ∧ v6 = .int .i64 x6_5 ∧ Aside0 (platenlaw20_beyond.l2 kq x3_5 x4_1 x5_3 x6_5 a0_0 a0_1 a0_2 a0_3 l0_4 = some r) ∧ Aside0 (kq ≤ kj10) ∧ Aside0 (w'.heap[gb101]? = some (.cells #[.int .i64 a0_0, .int .i64 a0_1, .int .i64 a0_2, .int .i64 a0_3, (.slice A0_4 l0_4.length c0_4)] 27 (0, 0))) ∧ Aside0 (Below w.heap.size w w'))
                      case atStart => exact ⟨(t105), (0), (by first | rfl | (simp; done) | (simp [*]; done)), (by first | rfl | (simp; done) | (simp [*]; done)), H', ⟨Nat.le_refl _⟩, ⟨by (with_reducible repeat (first | refine blk_drewN ?_ _ | refine blk_drew ?_ | refine blk_alloc ?_ _)); exact BK101.out⟩, ⟨by repeat (first | (with_reducible first | exact HB.out | apply below_alloc | apply pw_below_drewN | apply below_drew1 | refine below_set ?_ GE101.out) | exact HB.out)⟩⟩
                      case round =>
                        clear H'
                        try clear c1
                        try clear p1
                        try clear q1
                        try clear hx1
                        try clear p2
                        try clear c6
                        try clear c6b0
                        try clear c7
                        try clear c9
                        try clear c10
                        try clear p10
                        try clear q10
                        try clear hx10
                        try clear c12
                        try clear c12b0
                        try clear c13
                        try clear c13b0
                        try clear c14
                        try clear c14b0
                        try clear c17
                        try clear c18
                        try clear hcz15_0
                        try clear hcz15_1
                        try clear hcz15_2
                        try clear hcz15_3
                        try clear hcz15_4
                        try clear hcz16_0
                        try clear hcz16_1
                        try clear hcz16_2
                        try clear hcz16_3
                        try clear hcz16_4
                        try clear hcz4_0
                        try clear hcz4_1
                        try clear hcz4_2
                        try clear hcz4_3
                        try clear hcz4_4
                        try clear hcz7_0
                        try clear hcz7_1
                        try clear hcz7_2
                        try clear hcz7_3
                        try clear hcz7_4
                        try clear hcz8_0
                        try clear hcz8_1
                        try clear hcz8_2
                        try clear hcz8_3
                        try clear hcz8_4
                        try clear hfz15_0
                        try clear hfz15_1
                        try clear hfz15_2
                        try clear hfz15_3
                        try clear hfz15_4
                        try clear hfz16_0
                        try clear hfz16_1
                        try clear hfz16_2
                        try clear hfz16_3
                        try clear hfz16_4
                        try clear hfz4_0
                        try clear hfz4_1
                        try clear hfz4_2
                        try clear hfz4_3
                        try clear hfz4_4
                        try clear hfz7_0
                        try clear hfz7_1
                        try clear hfz7_2
                        try clear hfz7_3
                        try clear hfz7_4
                        try clear hfz8_0
                        try clear hfz8_1
                        try clear hfz8_2
                        try clear hfz8_3
                        try clear hfz8_4
                        try clear hx104_0
                        try clear hx104_1
                        try clear hx104_2
                        try clear hx104_3
                        try clear p1
                        try clear p10
                        try clear p104
                        try clear p2
                        try clear q1
                        try clear q10
                        try clear q104
                        obtain ⟨x3_5, x6_5, rfl, rfl, HA, HK5, BK101, HB⟩ := hrel
                        cases gk with
                        | zero => exact absurd HA.out (by simp [platenlaw20_beyond.l2])
                        | succ k5 =>
                          have H := HA.out
                          clear HA
                          simp only [platenlaw20_beyond.l2] at H
                          have HC19 := Aside0.mk H
                          clear H
                          go_upto_region 11 with (fail)
                          go_cut [57] (fun v57 wc => ∃ (kq : Nat) (x57_18 : Bool), v57 = .bool x57_18 ∧ Aside0 (platenlaw20_beyond.j5 kq x3_5 x4_1 x5_3 x6_5 x57_18 a0_0 a0_1 a0_2 a0_3 l0_4 = some r) ∧ Aside0 (kq ≤ k5) ∧ Aside0 (wc.heap[gb101]? = some (.cells #[.int .i64 a0_0, .int .i64 a0_1, .int .i64 a0_2, .int .i64 a0_3, (.slice A0_4 l0_4.length c0_4)] 27 (0, 0))) ∧ Aside0 (Below w.heap.size w wc))
                          case first =>
                            have H := HC19.out
                            clear HC19
                            by_cases c20 : 0 ≤ x4_1
                            · rw [if_pos c20] at H
                              have c20b0 : decide (0 ≤ x4_1) = true := decide_eq_true c20
                              clear c20
                              (first | rw [c20b0] | (simp only [i64_w, i32_w]; rw [c20b0]) | skip)
                              by_cases c21 : x4_1 < (l0_4.length : Int)
                              · rw [if_pos c21] at H
                                have c21b0 : decide (x4_1 < (l0_4.length : Int)) = true := decide_eq_true c21
                                clear c21
                                by_cases c22 : 0 ≤ x5_3
                                · rw [if_pos c22] at H
                                  have c22b0 : decide (0 ≤ x5_3) = true := decide_eq_true c22
                                  clear c22
                                  by_cases c23 : x5_3 < (((rd_T45 l0_4 x4_1).f3).length : Int)
                                  · rw [if_pos c23] at H
                                    have c23b0 : decide (x5_3 < (((rd_T45 l0_4 x4_1).f3).length : Int)) = true := decide_eq_true c23
                                    clear c23
                                    by_cases c24 : x6_5 < (((rd_T48 ((rd_T45 l0_4 x4_1).f3) x5_3).f3).length : Int)
                                    · rw [if_pos c24] at H
                                      have c24b0 : decide (x6_5 < (((rd_T48 ((rd_T45 l0_4 x4_1).f3) x5_3).f3).length : Int)) = true := decide_eq_true c24
                                      clear c24
                                      have H' := Aside0.mk H
                                      clear H
                                      have hcz25_0 : wr.cell? ⟨gb101, 0, none⟩ = some (.int .i64 a0_0) := (blk_cell BK101.out 0).trans rfl
                                      have hcz25_1 : wr.cell? ⟨gb101, 1, none⟩ = some (.int .i64 a0_1) := (blk_cell BK101.out 1).trans rfl
                                      have hcz25_2 : wr.cell? ⟨gb101, 2, none⟩ = some (.int .i64 a0_2) := (blk_cell BK101.out 2).trans rfl
                                      have hcz25_3 : wr.cell? ⟨gb101, 3, none⟩ = some (.int .i64 a0_3) := (blk_cell BK101.out 3).trans rfl
                                      have hcz25_4 : wr.cell? ⟨gb101, 4, none⟩ = some (.slice A0_4 l0_4.length c0_4) := (blk_cell BK101.out 4).trans rfl
                                      have hfz25_0 := blk_frozen BK101.out 0
                                      have hfz25_1 := blk_frozen BK101.out 1
                                      have hfz25_2 := blk_frozen BK101.out 2
                                      have hfz25_3 := blk_frozen BK101.out 3
                                      have hfz25_4 := blk_frozen BK101.out 4
                                      have p106 : 0 ≤ (x4_1 : Int) := of_decide_eq_true (by first | (with_reducible assumption) | assumption)
                                      have q106 : x4_1 < (l0_4.length : Int) := of_decide_eq_true (by first | (with_reducible assumption) | assumption)
                                      obtain ⟨ad106, A106_3, c106_3, e106, hx106_0, hx106_1, hx106_2, hx106_3, hl106_3, hi106_3⟩ := at_T45 HR0_4.out x4_1 p106 q106
                                      cases e106
                                      replace hx106_0 := (HB.out.cell (World.block_lt_of_cell? w _ hx106_0)).trans hx106_0
                                      replace hx106_1 := (HB.out.cell (World.block_lt_of_cell? w _ hx106_1)).trans hx106_1
                                      replace hx106_2 := (HB.out.cell (World.block_lt_of_cell? w _ hx106_2)).trans hx106_2
                                      replace hx106_3 := (HB.out.cell (World.block_lt_of_cell? w _ hx106_3)).trans hx106_3
                                      have HR106_3 := Aside0.mk hi106_3
                                      have HC106_3 := Aside0.mk hl106_3
                                      clear hi106_3 hl106_3
                                      replace p106 := eq_true p106
                                      replace q106 := eq_true q106
                                      have p107 : 0 ≤ (x5_3 : Int) := of_decide_eq_true (by first | (with_reducible assumption) | assumption)
                                      have q107 : x5_3 < (((rd_T45 l0_4 x4_1).f3).length : Int) := of_decide_eq_true (by first | (with_reducible assumption) | assumption)
                                      obtain ⟨ad107, A107_3, c107_3, e107, hx107_0, hx107_1, hx107_2, hx107_3, hl107_3, hi107_3⟩ := at_T48 HR106_3.out x5_3 p107 q107
                                      cases e107
                                      replace hx107_0 := (HB.out.cell (World.block_lt_of_cell? w _ hx107_0)).trans hx107_0
                                      replace hx107_1 := (HB.out.cell (World.block_lt_of_cell? w _ hx107_1)).trans hx107_1
                                      replace hx107_2 := (HB.out.cell (World.block_lt_of_cell? w _ hx107_2)).trans hx107_2
                                      replace hx107_3 := (HB.out.cell (World.block_lt_of_cell? w _ hx107_3)).trans hx107_3
                                      have HR107_3 := Aside0.mk hi107_3
                                      have HC107_3 := Aside0.mk hl107_3
                                      clear hi107_3 hl107_3
                                      replace p107 := eq_true p107
                                      replace q107 := eq_true q107
                                      go_wp2
                                      go_meet
                                      case rel => exact ⟨_, (decide (x3_5 ≤ 2147483647)), (by first | rfl | (simp; done) | (simp [*]; done)), H', ⟨by have := HK1.out; have := HJ4.out; have := HK3.out; have := HJ10.out; have := HK5.out; first | omega | exact Nat.le_refl _⟩, ⟨by (with_reducible repeat (first | refine blk_drewN ?_ _ | refine blk_drew ?_ | refine blk_alloc ?_ _)); exact BK101.out⟩, ⟨by repeat (first | (with_reducible first | exact HB.out | apply below_alloc | apply pw_below_drewN | apply below_drew1 | refine below_set ?_ GE101.out) | exact HB.out)⟩⟩
                                    · rw [if_neg c24] at H
                                      have c24b0 : decide (x6_5 < (((rd_T48 ((rd_T45 l0_4 x4_1).f3) x5_3).f3).length : Int)) = false := decide_eq_false c24
                                      clear c24
                                      have H' := Aside0.mk H
                                      clear H
                                      have hcz26_0 : wr.cell? ⟨gb101, 0, none⟩ = some (.int .i64 a0_0) := (blk_cell BK101.out 0).trans rfl
                                      have hcz26_1 : wr.cell? ⟨gb101, 1, none⟩ = some (.int .i64 a0_1) := (blk_cell BK101.out 1).trans rfl
                                      have hcz26_2 : wr.cell? ⟨gb101, 2, none⟩ = some (.int .i64 a0_2) := (blk_cell BK101.out 2).trans rfl
                                      have hcz26_3 : wr.cell? ⟨gb101, 3, none⟩ = some (.int .i64 a0_3) := (blk_cell BK101.out 3).trans rfl
                                      have hcz26_4 : wr.cell? ⟨gb101, 4, none⟩ = some (.slice A0_4 l0_4.length c0_4) := (blk_cell BK101.out 4).trans rfl
                                      have hfz26_0 := blk_frozen BK101.out 0
                                      have hfz26_1 := blk_frozen BK101.out 1
                                      have hfz26_2 := blk_frozen BK101.out 2
                                      have hfz26_3 := blk_frozen BK101.out 3
                                      have hfz26_4 := blk_frozen BK101.out 4
                                      have p106 : 0 ≤ (x4_1 : Int) := of_decide_eq_true (by first | (with_reducible assumption) | assumption)
                                      have q106 : x4_1 < (l0_4.length : Int) := of_decide_eq_true (by first | (with_reducible assumption) | assumption)
                                      obtain ⟨ad106, A106_3, c106_3, e106, hx106_0, hx106_1, hx106_2, hx106_3, hl106_3, hi106_3⟩ := at_T45 HR0_4.out x4_1 p106 q106
                                      cases e106
                                      replace hx106_0 := (HB.out.cell (World.block_lt_of_cell? w _ hx106_0)).trans hx106_0
                                      replace hx106_1 := (HB.out.cell (World.block_lt_of_cell? w _ hx106_1)).trans hx106_1
                                      replace hx106_2 := (HB.out.cell (World.block_lt_of_cell? w _ hx106_2)).trans hx106_2
                                      replace hx106_3 := (HB.out.cell (World.block_lt_of_cell? w _ hx106_3)).trans hx106_3
                                      have HR106_3 := Aside0.mk hi106_3
                                      have HC106_3 := Aside0.mk hl106_3
                                      clear hi106_3 hl106_3
                                      replace p106 := eq_true p106
                                      replace q106 := eq_true q106
                                      have p107 : 0 ≤ (x5_3 : Int) := of_decide_eq_true (by first | (with_reducible assumption) | assumption)
                                      have q107 : x5_3 < (((rd_T45 l0_4 x4_1).f3).length : Int) := of_decide_eq_true (by first | (with_reducible assumption) | assumption)
                                      obtain ⟨ad107, A107_3, c107_3, e107, hx107_0, hx107_1, hx107_2, hx107_3, hl107_3, hi107_3⟩ := at_T48 HR106_3.out x5_3 p107 q107
                                      cases e107
                                      replace hx107_0 := (HB.out.cell (World.block_lt_of_cell? w _ hx107_0)).trans hx107_0
                                      replace hx107_1 := (HB.out.cell (World.block_lt_of_cell? w _ hx107_1)).trans hx107_1
                                      replace hx107_2 := (HB.out.cell (World.block_lt_of_cell? w _ hx107_2)).trans hx107_2
                                      replace hx107_3 := (HB.out.cell (World.block_lt_of_cell? w _ hx107_3)).trans hx107_3
                                      have HR107_3 := Aside0.mk hi107_3
                                      have HC107_3 := Aside0.mk hl107_3
                                      clear hi107_3 hl107_3
                                      replace p107 := eq_true p107
                                      replace q107 := eq_true q107
                                      go_wp2
                                      go_meet
                                      case rel => exact ⟨_, (false), (by first | rfl | (simp; done) | (simp [*]; done)), H', ⟨by have := HK1.out; have := HJ4.out; have := HK3.out; have := HJ10.out; have := HK5.out; first | omega | exact Nat.le_refl _⟩, ⟨by (with_reducible repeat (first | refine blk_drewN ?_ _ | refine blk_drew ?_ | refine blk_alloc ?_ _)); exact BK101.out⟩, ⟨by repeat (first | (with_reducible first | exact HB.out | apply below_alloc | apply pw_below_drewN | apply below_drew1 | refine below_set ?_ GE101.out) | exact HB.out)⟩⟩
                                  · rw [if_neg c23] at H
                                    exact absurd H (by simp)
                                · rw [if_neg c22] at H
                                  exact absurd H (by simp)
                              · rw [if_neg c21] at H
                                exact absurd H (by simp)
                            · rw [if_neg c20] at H
                              exact absurd H (by simp)
                          case rest =>
                            clear HC19
                            try clear c1
                            try clear p1
                            try clear q1
                            try clear hx1
                            try clear c2
                            try clear p2
                            try clear c6
                            try clear c6b0
                            try clear c7
                            try clear c9
                            try clear c10
                            try clear p10
                            try clear q10
                            try clear hx10
                            try clear c12
                            try clear c12b0
                            try clear c13
                            try clear c13b0
                            try clear c14
                            try clear c14b0
                            try clear c17
                            try clear c18
                            try clear c20
                            try clear c20b0
                            try clear c21
                            try clear c21b0
                            try clear c22
                            try clear c22b0
                            try clear c23
                            try clear c23b0
                            try clear c24
                            try clear c24b0
                            try clear hcz15_0
                            try clear hcz15_1
                            try clear hcz15_2
                            try clear hcz15_3
                            try clear hcz15_4
                            try clear hcz16_0
                            try clear hcz16_1
                            try clear hcz16_2
                            try clear hcz16_3
                            try clear hcz16_4
                            try clear hcz25_0
                            try clear hcz25_1
                            try clear hcz25_2
                            try clear hcz25_3
                            try clear hcz25_4
                            try clear hcz26_0
                            try clear hcz26_1
                            try clear hcz26_2
                            try clear hcz26_3
                            try clear hcz26_4
                            try clear hcz4_0
                            try clear hcz4_1
                            try clear hcz4_2
                            try clear hcz4_3
                            try clear hcz4_4
                            try clear hcz7_0
                            try clear hcz7_1
                            try clear hcz7_2
                            try clear hcz7_3
                            try clear hcz7_4
                            try clear hcz8_0
                            try clear hcz8_1
                            try clear hcz8_2
                            try clear hcz8_3
                            try clear hcz8_4
                            try clear hfz15_0
                            try clear hfz15_1
                            try clear hfz15_2
                            try clear hfz15_3
                            try clear hfz15_4
                            try clear hfz16_0
                            try clear hfz16_1
                            try clear hfz16_2
                            try clear hfz16_3
                            try clear hfz16_4
                            try clear hfz25_0
                            try clear hfz25_1
                            try clear hfz25_2
                            try clear hfz25_3
                            try clear hfz25_4
                            try clear hfz26_0
                            try clear hfz26_1
                            try clear hfz26_2
                            try clear hfz26_3
                            try clear hfz26_4
                            try clear hfz4_0
                            try clear hfz4_1
                            try clear hfz4_2
                            try clear hfz4_3
                            try clear hfz4_4
                            try clear hfz7_0
                            try clear hfz7_1
                            try clear hfz7_2
                            try clear hfz7_3
                            try clear hfz7_4
                            try clear hfz8_0
                            try clear hfz8_1
                            try clear hfz8_2
                            try clear hfz8_3
                            try clear hfz8_4
                            try clear hx104_0
                            try clear hx104_1
                            try clear hx104_2
                            try clear hx104_3
                            try clear hx106_0
                            try clear hx106_1
                            try clear hx106_2
                            try clear hx106_3
                            try clear hx107_0
                            try clear hx107_1
                            try clear hx107_2
                            try clear hx107_3
                            try clear p1
                            try clear p10
                            try clear p104
                            try clear p106
                            try clear p107
                            try clear p2
                            try clear q1
                            try clear q10
                            try clear q104
                            try clear q106
                            try clear q107
                            obtain ⟨kq, x57_18, rfl, HA, HJ18, BK101, HB⟩ := hcut
                            cases kq with
                            | zero => exact absurd HA.out (by simp [platenlaw20_beyond.j5])
                            | succ kj18 =>
                              have H := HA.out
                              clear HA
                              simp only [platenlaw20_beyond.j5] at H
                              by_cases c27 : x57_18 = true
                              · subst c27
                                have H1 : ((platenlaw20_more.f x3_5 80).bind fun t108 => (if 0 ≤ x4_1 then (if x4_1 < (l0_4.length : Int) then (if 0 ≤ x5_3 then (if x5_3 < (((rd_T45 l0_4 x4_1).f3).length : Int) then (if 0 ≤ x6_5 then (if x6_5 < (((rd_T48 ((rd_T45 l0_4 x4_1).f3) x5_3).f3).length : Int) then ((platenlaw20_more.f t108 (((rd_T50 ((rd_T48 ((rd_T45 l0_4 x4_1).f3) x5_3).f3) x6_5).f2).size : Int)).bind fun t112 => (platenlaw20_beyond.l2 kj18 t112 x4_1 x5_3 (wrap64 (x6_5 + 1)) a0_0 a0_1 a0_2 a0_3 l0_4)) else (none)) else (none)) else (none)) else (none)) else (none)) else (none))) = some r := by rw [if_pos rfl] at H; exact H
                                clear H
                                have H := H1
                                clear H1
                                replace H := Option.bind_eq_some_iff.mp H
                                obtain ⟨t108, A280, H⟩ := H
                                replace H : (if 0 ≤ x4_1 then (if x4_1 < (l0_4.length : Int) then (if 0 ≤ x5_3 then (if x5_3 < (((rd_T45 l0_4 x4_1).f3).length : Int) then (if 0 ≤ x6_5 then (if x6_5 < (((rd_T48 ((rd_T45 l0_4 x4_1).f3) x5_3).f3).length : Int) then ((platenlaw20_more.f t108 (((rd_T50 ((rd_T48 ((rd_T45 l0_4 x4_1).f3) x5_3).f3) x6_5).f2).size : Int)).bind fun t112 => (platenlaw20_beyond.l2 kj18 t112 x4_1 x5_3 (wrap64 (x6_5 + 1)) a0_0 a0_1 a0_2 a0_3 l0_4)) else (none)) else (none)) else (none)) else (none)) else (none)) else (none)) = some r := H
                                have A28 := Aside0.mk A280
                                clear A280
                                by_cases c29 : 0 ≤ x4_1
                                · rw [if_pos c29] at H
                                  have c29b0 : decide (0 ≤ x4_1) = true := decide_eq_true c29
                                  clear c29
                                  by_cases c30 : x4_1 < (l0_4.length : Int)
                                  · rw [if_pos c30] at H
                                    have c30b0 : decide (x4_1 < (l0_4.length : Int)) = true := decide_eq_true c30
                                    clear c30
                                    by_cases c31 : 0 ≤ x5_3
                                    · rw [if_pos c31] at H
                                      have c31b0 : decide (0 ≤ x5_3) = true := decide_eq_true c31
                                      clear c31
                                      by_cases c32 : x5_3 < (((rd_T45 l0_4 x4_1).f3).length : Int)
                                      · rw [if_pos c32] at H
                                        have c32b0 : decide (x5_3 < (((rd_T45 l0_4 x4_1).f3).length : Int)) = true := decide_eq_true c32
                                        clear c32
                                        by_cases c33 : 0 ≤ x6_5
                                        · rw [if_pos c33] at H
                                          have c33b0 : decide (0 ≤ x6_5) = true := decide_eq_true c33
                                          clear c33
                                          by_cases c34 : x6_5 < (((rd_T48 ((rd_T45 l0_4 x4_1).f3) x5_3).f3).length : Int)
                                          · rw [if_pos c34] at H
                                            have c34b0 : decide (x6_5 < (((rd_T48 ((rd_T45 l0_4 x4_1).f3) x5_3).f3).length : Int)) = true := decide_eq_true c34
                                            clear c34
                                            replace H := Option.bind_eq_some_iff.mp H
                                            obtain ⟨t112, A350, H⟩ := H
                                            replace H : (platenlaw20_beyond.l2 kj18 t112 x4_1 x5_3 (wrap64 (x6_5 + 1)) a0_0 a0_1 a0_2 a0_3 l0_4) = some r := H
                                            have A35 := Aside0.mk A350
                                            clear A350
                                            have H' := Aside0.mk H
                                            clear H
                                            go_wp2_with (first | ((with_reducible refine gate_callee (f := 18) rfl ?_); refine goesL_ (some 61) rfl rfl Try.func18 (by kernel_rfl) rfl #[.int .i64 x3_5, .int .i64 80] rfl (by (try simp only [List.map_toArray, List.map_cons, List.map_nil]); first | done | rfl | (simp only [List.length_drop, List.length_take]; rfl)) ?_; (with_reducible refine (platenlaw20_more.calls x3_5 80 t108 _ A28.out).mono ?_); rintro e w' ⟨rfl, ⟨nd, rfl⟩⟩; refine ⟨_, rfl, ?_⟩; have hcz36_0 : wc.cell? ⟨gb101, 0, none⟩ = some (.int .i64 a0_0) := (blk_cell BK101.out 0).trans rfl; have hcz36_1 : wc.cell? ⟨gb101, 1, none⟩ = some (.int .i64 a0_1) := (blk_cell BK101.out 1).trans rfl; have hcz36_2 : wc.cell? ⟨gb101, 2, none⟩ = some (.int .i64 a0_2) := (blk_cell BK101.out 2).trans rfl; have hcz36_3 : wc.cell? ⟨gb101, 3, none⟩ = some (.int .i64 a0_3) := (blk_cell BK101.out 3).trans rfl; have hcz36_4 : wc.cell? ⟨gb101, 4, none⟩ = some (.slice A0_4 l0_4.length c0_4) := (blk_cell BK101.out 4).trans rfl; have hfz36_0 := blk_frozen BK101.out 0; have hfz36_1 := blk_frozen BK101.out 1; have hfz36_2 := blk_frozen BK101.out 2; have hfz36_3 := blk_frozen BK101.out 3; have hfz36_4 := blk_frozen BK101.out 4; have p109 : 0 ≤ (x4_1 : Int) := of_decide_eq_true (by first | (with_reducible assumption) | assumption); have q109 : x4_1 < (l0_4.length : Int) := of_decide_eq_true (by first | (with_reducible assumption) | assumption); obtain ⟨ad109, A109_3, c109_3, e109, hx109_0, hx109_1, hx109_2, hx109_3, hl109_3, hi109_3⟩ := at_T45 HR0_4.out x4_1 p109 q109; cases e109; replace hx109_0 := (HB.out.cell (World.block_lt_of_cell? w _ hx109_0)).trans hx109_0; replace hx109_1 := (HB.out.cell (World.block_lt_of_cell? w _ hx109_1)).trans hx109_1; replace hx109_2 := (HB.out.cell (World.block_lt_of_cell? w _ hx109_2)).trans hx109_2; replace hx109_3 := (HB.out.cell (World.block_lt_of_cell? w _ hx109_3)).trans hx109_3; have HR109_3 := Aside0.mk hi109_3; have HC109_3 := Aside0.mk hl109_3; clear hi109_3 hl109_3; replace p109 := eq_true p109; replace q109 := eq_true q109; have p110 : 0 ≤ (x5_3 : Int) := of_decide_eq_true (by first | (with_reducible assumption) | assumption); have q110 : x5_3 < (((rd_T45 l0_4 x4_1).f3).length : Int) := of_decide_eq_true (by first | (with_reducible assumption) | assumption); obtain ⟨ad110, A110_3, c110_3, e110, hx110_0, hx110_1, hx110_2, hx110_3, hl110_3, hi110_3⟩ := at_T48 HR109_3.out x5_3 p110 q110; cases e110; replace hx110_0 := (HB.out.cell (World.block_lt_of_cell? w _ hx110_0)).trans hx110_0; replace hx110_1 := (HB.out.cell (World.block_lt_of_cell? w _ hx110_1)).trans hx110_1; replace hx110_2 := (HB.out.cell (World.block_lt_of_cell? w _ hx110_2)).trans hx110_2; replace hx110_3 := (HB.out.cell (World.block_lt_of_cell? w _ hx110_3)).trans hx110_3; have HR110_3 := Aside0.mk hi110_3; have HC110_3 := Aside0.mk hl110_3; clear hi110_3 hl110_3; replace p110 := eq_true p110; replace q110 := eq_true q110; have p111 : 0 ≤ (x6_5 : Int) := of_decide_eq_true (by first | (with_reducible assumption) | assumption); have q111 : x6_5 < (((rd_T48 ((rd_T45 l0_4 x4_1).f3) x5_3).f3).length : Int) := of_decide_eq_true (by first | (with_reducible assumption) | assumption); obtain ⟨ad111, e111, hx111_0, hx111_1, hx111_2, hx111_3, hx111_4, hx111_5, hx111_6, hx111_7, hx111_8, hx111_9⟩ := at_T50 HR110_3.out x6_5 p111 q111; cases e111; replace hx111_0 := (HB.out.cell (World.block_lt_of_cell? w _ hx111_0)).trans hx111_0; replace hx111_1 := (HB.out.cell (World.block_lt_of_cell? w _ hx111_1)).trans hx111_1; replace hx111_2 := (HB.out.cell (World.block_lt_of_cell? w _ hx111_2)).trans hx111_2; replace hx111_3 := (HB.out.cell (World.block_lt_of_cell? w _ hx111_3)).trans hx111_3; replace hx111_4 := (HB.out.cell (World.block_lt_of_cell? w _ hx111_4)).trans hx111_4; replace hx111_5 := (HB.out.cell (World.block_lt_of_cell? w _ hx111_5)).trans hx111_5; replace hx111_6 := (HB.out.cell (World.block_lt_of_cell? w _ hx111_6)).trans hx111_6; replace hx111_7 := (HB.out.cell (World.block_lt_of_cell? w _ hx111_7)).trans hx111_7; replace hx111_8 := (HB.out.cell (World.block_lt_of_cell? w _ hx111_8)).trans hx111_8; replace hx111_9 := (HB.out.cell (World.block_lt_of_cell? w _ hx111_9)).trans hx111_9; replace p111 := eq_true p111; replace q111 := eq_true q111) | ((with_reducible refine gate_callee (f := 18) rfl ?_); refine goesL_ (some 78) rfl rfl Try.func18 (by kernel_rfl) rfl #[.int .i64 t108, .int .i64 (((rd_T50 ((rd_T48 ((rd_T45 l0_4 x4_1).f3) x5_3).f3) x6_5).f2).size : Int)] rfl (by (try simp only [List.map_toArray, List.map_cons, List.map_nil]); first | done | rfl | (simp only [List.length_drop, List.length_take]; rfl)) ?_; (with_reducible refine (platenlaw20_more.calls t108 (((rd_T50 ((rd_T48 ((rd_T45 l0_4 x4_1).f3) x5_3).f3) x6_5).f2).size : Int) t112 _ A35.out).mono ?_); rintro e w' ⟨rfl, ⟨nd, rfl⟩⟩; refine ⟨_, rfl, ?_⟩))
                                            go_roundg kj18
                                            case measure => have := HK1.out; have := HJ4.out; have := HK3.out; have := HJ10.out; have := HK5.out; have := HJ18.out; omega
                                            case rel => exact ⟨(t112), (wrap64 (x6_5 + 1)), (by first | rfl | (simp; done) | (simp [*]; done)), (by first | rfl | (simp; done) | (simp [*]; done)), H', ⟨by have := HK1.out; have := HJ4.out; have := HK3.out; have := HJ10.out; have := HK5.out; have := HJ18.out; omega⟩, ⟨by (with_reducible repeat (first | refine blk_drewN ?_ _ | refine blk_drew ?_ | refine blk_alloc ?_ _)); exact BK101.out⟩, ⟨by repeat (first | (with_reducible first | exact HB.out | apply below_alloc | apply pw_below_drewN | apply below_drew1 | refine below_set ?_ GE101.out) | exact HB.out)⟩⟩
                                          · rw [if_neg c34] at H
                                            exact absurd H (by simp)
                                        · rw [if_neg c33] at H
                                          exact absurd H (by simp)
                                      · rw [if_neg c32] at H
                                        exact absurd H (by simp)
                                    · rw [if_neg c31] at H
                                      exact absurd H (by simp)
                                  · rw [if_neg c30] at H
                                    exact absurd H (by simp)
                                · rw [if_neg c29] at H
                                  exact absurd H (by simp)
                              · replace c27 := Bool.eq_false_iff.mpr c27
                                subst c27
                                have H1 : (platenlaw20_beyond.l1 kj18 x3_5 x4_1 (wrap64 (x5_3 + 1)) a0_0 a0_1 a0_2 a0_3 l0_4) = some r := by rw [if_neg (show ¬ (false = true) by decide)] at H; exact H
                                clear H
                                have H := H1
                                clear H1
                                have H' := Aside0.mk H
                                clear H
                                go_wp2
                                go_roundg kj18
                                case measure => have := HK1.out; have := HJ4.out; have := HK3.out; have := HJ10.out; have := HK5.out; have := HJ18.out; omega
                                case rel => exact ⟨(x3_5), (wrap64 (x5_3 + 1)), (by first | rfl | (simp; done) | (simp [*]; done)), (by first | rfl | (simp; done) | (simp [*]; done)), H', ⟨by have := HK1.out; have := HJ4.out; have := HK3.out; have := HJ10.out; have := HK5.out; have := HJ18.out; omega⟩, ⟨by (with_reducible repeat (first | refine blk_drewN ?_ _ | refine blk_drew ?_ | refine blk_alloc ?_ _)); exact BK101.out⟩, ⟨by repeat (first | (with_reducible first | exact HB.out | apply below_alloc | apply pw_below_drewN | apply below_drew1 | refine below_set ?_ GE101.out) | exact HB.out)⟩⟩
                    · replace c17 := Bool.eq_false_iff.mpr c17
                      subst c17
                      have H1 : (platenlaw20_beyond.l0 kj10 x3_3 (wrap64 (x4_1 + 1)) a0_0 a0_1 a0_2 a0_3 l0_4) = some r := by rw [if_neg (show ¬ (false = true) by decide)] at H; exact H
                      clear H
                      have H := H1
                      clear H1
                      have H' := Aside0.mk H
                      clear H
                      go_wp2
                      go_roundg kj10
                      case measure => have := HK1.out; have := HJ4.out; have := HK3.out; have := HJ10.out; omega
                      case rel => exact ⟨(x3_3), (wrap64 (x4_1 + 1)), (by first | rfl | (simp; done) | (simp [*]; done)), (by first | rfl | (simp; done) | (simp [*]; done)), H', ⟨by have := HK1.out; have := HJ4.out; have := HK3.out; have := HJ10.out; omega⟩, ⟨by (with_reducible repeat (first | refine blk_drewN ?_ _ | refine blk_drew ?_ | refine blk_alloc ?_ _)); exact BK101.out⟩, ⟨by repeat (first | (with_reducible first | exact HB.out | apply below_alloc | apply pw_below_drewN | apply below_drew1 | refine below_set ?_ GE101.out) | exact HB.out)⟩⟩
          · replace c9 := Bool.eq_false_iff.mpr c9
            subst c9
            have H1 : (some (decide (x3_1 > 2147483647))) = some r := by rw [if_neg (show ¬ (false = true) by decide)] at H; exact H
            clear H
            have H := H1
            clear H1
            obtain rfl := Option.some.inj H
            go_wp2
            go_ret
            exact ⟨by first | rfl | (simp [errW_none, errW_some] <;> rfl) | (simp [*, errW_none, errW_some] <;> rfl), by repeat (first | (with_reducible first | exact HB.out | apply below_alloc | apply pw_below_drewN | apply below_drew1 | refine below_set ?_ GE101.out) | exact HB.out)⟩

end Go.Proofs.Ytihiapjfdgoomaa.P
