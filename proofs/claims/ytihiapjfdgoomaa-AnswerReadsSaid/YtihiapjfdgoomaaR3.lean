/- Contracts of the document's reader: its parts, as functions of a place and a mark. Contracts of the document's reader: boxes and rows. Contracts of the document's reader: pages. What the document's reader reads well the program's reader reads as well, and the other way about. The check sum lies in its range. -/
import Derived.Test.YtihiapjfdgoomaaR1
import Derived.Test.YtihiapjfdgoomaaR2
import Derived.Deep.RegionLaw
namespace Go.Proofs.Ytihiapjfdgoomaa.P
open Go.RowKit Go.Proofs.YtihiapjfdgoomaaW.PrintWords Go.Proofs.YtihiapjfdgoomaaW.PrintLast Go.Proofs.YtihiapjfdgoomaaW.PrintMore
attribute [local go_sem] max2_int min2_int max_two min_two max_three min_three max_four min_four   -- for this text's walks alone
set_option linter.unusedVariables false
set_option linter.unusedSimpArgs false
def platenref20_Reader_box.f (k : Nat) (s0_0 : List Int) (s0_1 : Int) (s0_2 : Bool) : Option (Int × Int × ByteArray × Int × Int × Int × Int × Int × Int × Int × Int × Bool) := (platenref20_Reader_number.f k s0_0 s0_1 s0_2).bind fun bt336 => ((platenref20_Reader_number.f k s0_0 bt336.2.1 bt336.2.2).bind fun bt339 => ((platenref20_Reader_Text.f k s0_0 bt339.2.1 bt339.2.2).bind fun bt342 => ((platenref20_Reader_number.f k s0_0 bt342.2.1 bt342.2.2).bind fun bt345 => ((platenref20_Reader_number.f k s0_0 bt345.2.1 bt345.2.2).bind fun bt348 => ((platenref20_Reader_number.f k s0_0 bt348.2.1 bt348.2.2).bind fun bt351 => ((platenref20_Reader_number.f k s0_0 bt351.2.1 bt351.2.2).bind fun bt354 => ((platenref20_Reader_number.f k s0_0 bt354.2.1 bt354.2.2).bind fun bt357 => ((platenref20_Reader_number.f k s0_0 bt357.2.1 bt357.2.2).bind fun bt360 => ((platenref20_Reader_number.f k s0_0 bt360.2.1 bt360.2.2).bind fun bt363 => (some (bt336.1, bt339.1, bt342.1, bt345.1, bt348.1, bt351.1, bt354.1, bt357.1, bt360.1, bt363.1, bt363.2.1, bt363.2.2)))))))))))
theorem platenref20_Reader_box.mono : ∀ a0 a1 a2 k, LeO (platenref20_Reader_box.f k a0 a1 a2) (platenref20_Reader_box.f (k + 1) a0 a1 a2) := by
  intro a0 a1 a2 k
  unfold platenref20_Reader_box.f
  repeat' first
      | (with_reducible exact platenref20_Reader_Text.mono _ _ _ _)
      | (with_reducible exact platenref20_Reader_number.mono _ _ _ _)
      | (with_reducible exact LeO.refl _)
      | (with_reducible exact LeO.none _)
      | (with_reducible refine LeO.ite ?_ ?_)
      | (with_reducible refine LeO.bind ?_ (fun _ => ?_))
      | exact platenref20_Reader_Text.mono _ _ _ _
      | exact platenref20_Reader_number.mono _ _ _ _
      | exact LeO.none _
      | refine LeO.ite ?_ ?_
      | refine LeO.bind ?_ (fun _ => ?_)
set_option maxHeartbeats 8000000 in
set_option maxRecDepth 100000 in
theorem platenref20_Reader_box.calls (k : Nat) (g : Nat) (s0_0 : List Int) (s0_1 : Int) (s0_2 : Bool) (r1 : Int) (r2 : Int) (r3 : ByteArray) (r4 : Int) (r5 : Int) (r6 : Int) (r7 : Int) (r8 : Int) (r9 : Int) (r10 : Int) (r11 : Int) (r12 : Bool) (w0 w : World) (hI : IsS78 w0 w g s0_0 s0_1 s0_2) (hB : Below w0.heap.size w0 w) (h : platenref20_Reader_box.f k s0_0 s0_1 s0_2 = some (r1, r2, r3, r4, r5, r6, r7, r8, r9, r10, r11, r12)) :
    Calls Try.prog 48 #[.pointer (some ⟨g, 0, none⟩)] w fun e w' => e = .returned (.agg #[.int .i64 r1, .int .i64 r2, .string r3, .int .i64 r4, .int .i64 r5, .int .i64 r6, .int .i64 r7, .int .i64 r8, .int .i64 r9, .int .i64 r10]) ∧ IsS78 w0 w' g s0_0 r11 r12 ∧ Below w0.heap.size w0 w' ∧ KeepBut w w' g none := by
  have hu50 := Try.underlying50
  have HI0 := Aside0.mk hI
  have HK := Aside0.mk (KeepBut.refl w g none)
  have HL := Aside0.mk hB.size
  clear hI
  have HW0 := Aside0.mk hB.size
  have HB := Aside0.mk hB
  clear hB
  have H : ((platenref20_Reader_number.f k s0_0 s0_1 s0_2).bind fun bt336 => ((platenref20_Reader_number.f k s0_0 bt336.2.1 bt336.2.2).bind fun bt339 => ((platenref20_Reader_Text.f k s0_0 bt339.2.1 bt339.2.2).bind fun bt342 => ((platenref20_Reader_number.f k s0_0 bt342.2.1 bt342.2.2).bind fun bt345 => ((platenref20_Reader_number.f k s0_0 bt345.2.1 bt345.2.2).bind fun bt348 => ((platenref20_Reader_number.f k s0_0 bt348.2.1 bt348.2.2).bind fun bt351 => ((platenref20_Reader_number.f k s0_0 bt351.2.1 bt351.2.2).bind fun bt354 => ((platenref20_Reader_number.f k s0_0 bt354.2.1 bt354.2.2).bind fun bt357 => ((platenref20_Reader_number.f k s0_0 bt357.2.1 bt357.2.2).bind fun bt360 => ((platenref20_Reader_number.f k s0_0 bt360.2.1 bt360.2.2).bind fun bt363 => (some (bt336.1, bt339.1, bt342.1, bt345.1, bt348.1, bt351.1, bt354.1, bt357.1, bt360.1, bt363.1, bt363.2.1, bt363.2.2)))))))))))) = some (r1, r2, r3, r4, r5, r6, r7, r8, r9, r10, r11, r12) := h
  clear h
  replace H := Option.bind_eq_some_iff.mp H
  obtain ⟨⟨t336, t337, t338⟩, A20, H⟩ := H
  replace H : ((platenref20_Reader_number.f k s0_0 t337 t338).bind fun bt339 => ((platenref20_Reader_Text.f k s0_0 bt339.2.1 bt339.2.2).bind fun bt342 => ((platenref20_Reader_number.f k s0_0 bt342.2.1 bt342.2.2).bind fun bt345 => ((platenref20_Reader_number.f k s0_0 bt345.2.1 bt345.2.2).bind fun bt348 => ((platenref20_Reader_number.f k s0_0 bt348.2.1 bt348.2.2).bind fun bt351 => ((platenref20_Reader_number.f k s0_0 bt351.2.1 bt351.2.2).bind fun bt354 => ((platenref20_Reader_number.f k s0_0 bt354.2.1 bt354.2.2).bind fun bt357 => ((platenref20_Reader_number.f k s0_0 bt357.2.1 bt357.2.2).bind fun bt360 => ((platenref20_Reader_number.f k s0_0 bt360.2.1 bt360.2.2).bind fun bt363 => (some (t336, bt339.1, bt342.1, bt345.1, bt348.1, bt351.1, bt354.1, bt357.1, bt360.1, bt363.1, bt363.2.1, bt363.2.2))))))))))) = some (r1, r2, r3, r4, r5, r6, r7, r8, r9, r10, r11, r12) := H
  have A2 := Aside0.mk A20
  clear A20
  replace H := Option.bind_eq_some_iff.mp H
  obtain ⟨⟨t339, t340, t341⟩, A30, H⟩ := H
  replace H : ((platenref20_Reader_Text.f k s0_0 t340 t341).bind fun bt342 => ((platenref20_Reader_number.f k s0_0 bt342.2.1 bt342.2.2).bind fun bt345 => ((platenref20_Reader_number.f k s0_0 bt345.2.1 bt345.2.2).bind fun bt348 => ((platenref20_Reader_number.f k s0_0 bt348.2.1 bt348.2.2).bind fun bt351 => ((platenref20_Reader_number.f k s0_0 bt351.2.1 bt351.2.2).bind fun bt354 => ((platenref20_Reader_number.f k s0_0 bt354.2.1 bt354.2.2).bind fun bt357 => ((platenref20_Reader_number.f k s0_0 bt357.2.1 bt357.2.2).bind fun bt360 => ((platenref20_Reader_number.f k s0_0 bt360.2.1 bt360.2.2).bind fun bt363 => (some (t336, t339, bt342.1, bt345.1, bt348.1, bt351.1, bt354.1, bt357.1, bt360.1, bt363.1, bt363.2.1, bt363.2.2)))))))))) = some (r1, r2, r3, r4, r5, r6, r7, r8, r9, r10, r11, r12) := H
  have A3 := Aside0.mk A30
  clear A30
  replace H := Option.bind_eq_some_iff.mp H
  obtain ⟨⟨t342, t343, t344⟩, A40, H⟩ := H
  replace H : ((platenref20_Reader_number.f k s0_0 t343 t344).bind fun bt345 => ((platenref20_Reader_number.f k s0_0 bt345.2.1 bt345.2.2).bind fun bt348 => ((platenref20_Reader_number.f k s0_0 bt348.2.1 bt348.2.2).bind fun bt351 => ((platenref20_Reader_number.f k s0_0 bt351.2.1 bt351.2.2).bind fun bt354 => ((platenref20_Reader_number.f k s0_0 bt354.2.1 bt354.2.2).bind fun bt357 => ((platenref20_Reader_number.f k s0_0 bt357.2.1 bt357.2.2).bind fun bt360 => ((platenref20_Reader_number.f k s0_0 bt360.2.1 bt360.2.2).bind fun bt363 => (some (t336, t339, t342, bt345.1, bt348.1, bt351.1, bt354.1, bt357.1, bt360.1, bt363.1, bt363.2.1, bt363.2.2))))))))) = some (r1, r2, r3, r4, r5, r6, r7, r8, r9, r10, r11, r12) := H
  have A4 := Aside0.mk A40
  clear A40
  replace H := Option.bind_eq_some_iff.mp H
  obtain ⟨⟨t345, t346, t347⟩, A50, H⟩ := H
  replace H : ((platenref20_Reader_number.f k s0_0 t346 t347).bind fun bt348 => ((platenref20_Reader_number.f k s0_0 bt348.2.1 bt348.2.2).bind fun bt351 => ((platenref20_Reader_number.f k s0_0 bt351.2.1 bt351.2.2).bind fun bt354 => ((platenref20_Reader_number.f k s0_0 bt354.2.1 bt354.2.2).bind fun bt357 => ((platenref20_Reader_number.f k s0_0 bt357.2.1 bt357.2.2).bind fun bt360 => ((platenref20_Reader_number.f k s0_0 bt360.2.1 bt360.2.2).bind fun bt363 => (some (t336, t339, t342, t345, bt348.1, bt351.1, bt354.1, bt357.1, bt360.1, bt363.1, bt363.2.1, bt363.2.2)))))))) = some (r1, r2, r3, r4, r5, r6, r7, r8, r9, r10, r11, r12) := H
  have A5 := Aside0.mk A50
  clear A50
  replace H := Option.bind_eq_some_iff.mp H
  obtain ⟨⟨t348, t349, t350⟩, A60, H⟩ := H
  replace H : ((platenref20_Reader_number.f k s0_0 t349 t350).bind fun bt351 => ((platenref20_Reader_number.f k s0_0 bt351.2.1 bt351.2.2).bind fun bt354 => ((platenref20_Reader_number.f k s0_0 bt354.2.1 bt354.2.2).bind fun bt357 => ((platenref20_Reader_number.f k s0_0 bt357.2.1 bt357.2.2).bind fun bt360 => ((platenref20_Reader_number.f k s0_0 bt360.2.1 bt360.2.2).bind fun bt363 => (some (t336, t339, t342, t345, t348, bt351.1, bt354.1, bt357.1, bt360.1, bt363.1, bt363.2.1, bt363.2.2))))))) = some (r1, r2, r3, r4, r5, r6, r7, r8, r9, r10, r11, r12) := H
  have A6 := Aside0.mk A60
  clear A60
  replace H := Option.bind_eq_some_iff.mp H
  obtain ⟨⟨t351, t352, t353⟩, A70, H⟩ := H
  replace H : ((platenref20_Reader_number.f k s0_0 t352 t353).bind fun bt354 => ((platenref20_Reader_number.f k s0_0 bt354.2.1 bt354.2.2).bind fun bt357 => ((platenref20_Reader_number.f k s0_0 bt357.2.1 bt357.2.2).bind fun bt360 => ((platenref20_Reader_number.f k s0_0 bt360.2.1 bt360.2.2).bind fun bt363 => (some (t336, t339, t342, t345, t348, t351, bt354.1, bt357.1, bt360.1, bt363.1, bt363.2.1, bt363.2.2)))))) = some (r1, r2, r3, r4, r5, r6, r7, r8, r9, r10, r11, r12) := H
  have A7 := Aside0.mk A70
  clear A70
  replace H := Option.bind_eq_some_iff.mp H
  obtain ⟨⟨t354, t355, t356⟩, A80, H⟩ := H
  replace H : ((platenref20_Reader_number.f k s0_0 t355 t356).bind fun bt357 => ((platenref20_Reader_number.f k s0_0 bt357.2.1 bt357.2.2).bind fun bt360 => ((platenref20_Reader_number.f k s0_0 bt360.2.1 bt360.2.2).bind fun bt363 => (some (t336, t339, t342, t345, t348, t351, t354, bt357.1, bt360.1, bt363.1, bt363.2.1, bt363.2.2))))) = some (r1, r2, r3, r4, r5, r6, r7, r8, r9, r10, r11, r12) := H
  have A8 := Aside0.mk A80
  clear A80
  replace H := Option.bind_eq_some_iff.mp H
  obtain ⟨⟨t357, t358, t359⟩, A90, H⟩ := H
  replace H : ((platenref20_Reader_number.f k s0_0 t358 t359).bind fun bt360 => ((platenref20_Reader_number.f k s0_0 bt360.2.1 bt360.2.2).bind fun bt363 => (some (t336, t339, t342, t345, t348, t351, t354, t357, bt360.1, bt363.1, bt363.2.1, bt363.2.2)))) = some (r1, r2, r3, r4, r5, r6, r7, r8, r9, r10, r11, r12) := H
  have A9 := Aside0.mk A90
  clear A90
  replace H := Option.bind_eq_some_iff.mp H
  obtain ⟨⟨t360, t361, t362⟩, A100, H⟩ := H
  replace H : ((platenref20_Reader_number.f k s0_0 t361 t362).bind fun bt363 => (some (t336, t339, t342, t345, t348, t351, t354, t357, t360, bt363.1, bt363.2.1, bt363.2.2))) = some (r1, r2, r3, r4, r5, r6, r7, r8, r9, r10, r11, r12) := H
  have A10 := Aside0.mk A100
  clear A100
  replace H := Option.bind_eq_some_iff.mp H
  obtain ⟨⟨t363, t364, t365⟩, A110, H⟩ := H
  replace H : (some (t336, t339, t342, t345, t348, t351, t354, t357, t360, t363, t364, t365)) = some (r1, r2, r3, r4, r5, r6, r7, r8, r9, r10, r11, r12) := H
  have A11 := Aside0.mk A110
  clear A110
  simp only [Option.some.injEq, Prod.mk.injEq] at H
  obtain ⟨rfl, rfl, rfl, rfl, rfl, rfl, rfl, rfl, rfl, rfl, rfl, rfl⟩ := H
  go_enter Try.func48, Try.ntmps48
  go_wp2_with (first | ((with_reducible refine gate_dst (N := 2) rfl ?_); refine box_event ?hg (N := 2) ?hd (cs := #[.int .i64 0, .int .i64 0, .string (⟨#[]⟩ : ByteArray), .int .i64 0, .int .i64 0, .int .i64 0, .int .i64 0, .int .i64 0, .int .i64 0, .int .i64 0]) (t := 50) ?hr ?_; (case hd => rfl); (case hg => rfl); (case hr => first | (go_simp; done) | (go_simp; rfl)); intro gb334 hg w12 hbox hb; have n0_ := Aside0.mk (IsS78.below (by repeat (first | (with_reducible first | exact HI0.out | apply IsS78.alloc | apply IsS78.drewN | apply IsS78.drew | apply IsS78.set_1 | apply IsS78.set_2) | exact HI0.out)) hb); have n1_ := Aside0.mk (KeepBut.trans (by repeat (first | (with_reducible first | exact HK.out | apply KeepBut.set_ | apply keep_drewN | apply keep_drew | apply keep_alloc) | exact HK.out)) (KeepBut.of_below hb g none) (.inl rfl)); have n2_ := Aside0.mk (below_step (by repeat (first | (with_reducible first | exact HB.out | apply below_alloc | apply pw_below_drewN | apply below_drew1 | refine below_set ?_ (IsS78.ge HI0.out)) | exact HB.out)) hb); have n3_ := Aside0.mk (hbox); have n4_ := Aside0.mk ((by rw [hg]; exact (keep_size (w := w) (g := g) (row := none) (by repeat (first | (with_reducible first | exact HK.out | apply KeepBut.set_ | apply keep_drewN | apply keep_drew | apply keep_alloc) | exact HK.out))) : w.heap.size ≤ gb334)); have n5_ := Aside0.mk ((Nat.le_trans HW0.out (by rw [hg]; exact (keep_size (w := w) (g := g) (row := none) (by repeat (first | (with_reducible first | exact HK.out | apply KeepBut.set_ | apply keep_drewN | apply keep_drew | apply keep_alloc) | exact HK.out))) : w.heap.size ≤ gb334) : w0.heap.size ≤ gb334)); have n6_ := Aside0.mk ((by rw [hg]; exact Nat.ne_of_lt (IsS78.lt (show IsS78 w0 _ g s0_0 s0_1 s0_2 from by repeat (first | (with_reducible first | exact HI0.out | apply IsS78.alloc | apply IsS78.drewN | apply IsS78.drew | apply IsS78.set_1 | apply IsS78.set_2) | exact HI0.out))) : g ≠ gb334)); have n7_ := Aside0.mk ((by rw [hg]; exact Nat.ne_of_gt (IsS78.lt (show IsS78 w0 _ g s0_0 s0_1 s0_2 from by repeat (first | (with_reducible first | exact HI0.out | apply IsS78.alloc | apply IsS78.drewN | apply IsS78.drew | apply IsS78.set_1 | apply IsS78.set_2) | exact HI0.out))) : gb334 ≠ g)); clear HI0; clear HK; clear HB; have HI0 := n0_; have HK := n1_; have HB := n2_; have BK334 := n3_; have GW334 := n4_; have GE334 := n5_; have NB0_334 := n6_; have NB334_0 := n7_; clear n0_ n1_ n2_ n3_ n4_ n5_ n6_ n7_; clear hb hbox hg) | ((with_reducible refine gate_dst (N := 3) rfl ?_); refine box_event ?hg (N := 3) ?hd (cs := #[.int .i64 0, .int .i64 0, .string (⟨#[]⟩ : ByteArray), .int .i64 0, .int .i64 0, .int .i64 0, .int .i64 0, .int .i64 0, .int .i64 0, .int .i64 0]) (t := 50) ?hr ?_; (case hd => rfl); (case hg => rfl); (case hr => first | (go_simp; done) | (go_simp; rfl)); intro gb335 hg w13 hbox hb; have n0_ := Aside0.mk (IsS78.below (by repeat (first | (with_reducible first | exact HI0.out | apply IsS78.alloc | apply IsS78.drewN | apply IsS78.drew | apply IsS78.set_1 | apply IsS78.set_2 | refine IsS78.far ?_ NB0_334.out _) | exact HI0.out)) hb); have n1_ := Aside0.mk (blk_below (g := gb334) (o := .cells #[.int .i64 0, .int .i64 0, .string (⟨#[]⟩ : ByteArray), .int .i64 0, .int .i64 0, .int .i64 0, .int .i64 0, .int .i64 0, .int .i64 0, .int .i64 0] 50 (0, 0)) (by (with_reducible repeat (first | refine blk_drewN ?_ _ | refine blk_drew ?_ | refine blk_alloc ?_ _)); exact BK334.out) hb); have n2_ := Aside0.mk (KeepBut.trans (by repeat (first | (with_reducible first | exact HK.out | apply KeepBut.set_ | apply keep_drewN | apply keep_drew | apply keep_alloc | refine keep_far ?_ GW334.out _) | exact HK.out)) (KeepBut.of_below hb g none) (.inl rfl)); have n3_ := Aside0.mk (below_step (by repeat (first | (with_reducible first | exact HB.out | apply below_alloc | apply pw_below_drewN | apply below_drew1 | refine below_set ?_ (IsS78.ge HI0.out) | refine below_set ?_ GE334.out) | exact HB.out)) hb); have n4_ := Aside0.mk (hbox); have n5_ := Aside0.mk ((by rw [hg]; exact (keep_size (w := w) (g := g) (row := none) (by repeat (first | (with_reducible first | exact HK.out | apply KeepBut.set_ | apply keep_drewN | apply keep_drew | apply keep_alloc | refine keep_far ?_ GW334.out _) | exact HK.out))) : w.heap.size ≤ gb335)); have n6_ := Aside0.mk ((Nat.le_trans HW0.out (by rw [hg]; exact (keep_size (w := w) (g := g) (row := none) (by repeat (first | (with_reducible first | exact HK.out | apply KeepBut.set_ | apply keep_drewN | apply keep_drew | apply keep_alloc | refine keep_far ?_ GW334.out _) | exact HK.out))) : w.heap.size ≤ gb335) : w0.heap.size ≤ gb335)); have n7_ := Aside0.mk ((by rw [hg]; exact Nat.ne_of_lt (blk_lt (g := gb334) (o := .cells #[.int .i64 0, .int .i64 0, .string (⟨#[]⟩ : ByteArray), .int .i64 0, .int .i64 0, .int .i64 0, .int .i64 0, .int .i64 0, .int .i64 0, .int .i64 0] 50 (0, 0)) (by (with_reducible repeat (first | refine blk_drewN ?_ _ | refine blk_drew ?_ | refine blk_alloc ?_ _)); exact BK334.out)) : gb334 ≠ gb335)); have n8_ := Aside0.mk ((by rw [hg]; exact Nat.ne_of_gt (blk_lt (g := gb334) (o := .cells #[.int .i64 0, .int .i64 0, .string (⟨#[]⟩ : ByteArray), .int .i64 0, .int .i64 0, .int .i64 0, .int .i64 0, .int .i64 0, .int .i64 0, .int .i64 0] 50 (0, 0)) (by (with_reducible repeat (first | refine blk_drewN ?_ _ | refine blk_drew ?_ | refine blk_alloc ?_ _)); exact BK334.out)) : gb335 ≠ gb334)); have n9_ := Aside0.mk ((by rw [hg]; exact Nat.ne_of_lt (IsS78.lt (show IsS78 w0 _ g s0_0 s0_1 s0_2 from by repeat (first | (with_reducible first | exact HI0.out | apply IsS78.alloc | apply IsS78.drewN | apply IsS78.drew | apply IsS78.set_1 | apply IsS78.set_2 | refine IsS78.far ?_ NB0_334.out _) | exact HI0.out))) : g ≠ gb335)); have n10_ := Aside0.mk ((by rw [hg]; exact Nat.ne_of_gt (IsS78.lt (show IsS78 w0 _ g s0_0 s0_1 s0_2 from by repeat (first | (with_reducible first | exact HI0.out | apply IsS78.alloc | apply IsS78.drewN | apply IsS78.drew | apply IsS78.set_1 | apply IsS78.set_2 | refine IsS78.far ?_ NB0_334.out _) | exact HI0.out))) : gb335 ≠ g)); clear HI0; clear BK334; clear HK; clear HB; have HI0 := n0_; have BK334 := n1_; have HK := n2_; have HB := n3_; have BK335 := n4_; have GW335 := n5_; have GE335 := n6_; have NB334_335 := n7_; have NB335_334 := n8_; have NB0_335 := n9_; have NB335_0 := n10_; clear n0_ n1_ n2_ n3_ n4_ n5_ n6_ n7_ n8_ n9_ n10_; clear hb hbox hg; have hnb14 := NB335_334.out; have hnc14 := NB334_335.out; have hnb15 := NB335_0.out; have hnc15 := NB0_335.out; have hcz16_0 : w13.cell? ⟨gb335, 0, none⟩ = some (.int .i64 0) := (blk_cell BK335.out 0).trans rfl; have hcz16_1 : w13.cell? ⟨gb335, 1, none⟩ = some (.int .i64 0) := (blk_cell BK335.out 1).trans rfl; have hcz16_2 : w13.cell? ⟨gb335, 2, none⟩ = some (.string (⟨#[]⟩ : ByteArray)) := (blk_cell BK335.out 2).trans rfl; have hcz16_3 : w13.cell? ⟨gb335, 3, none⟩ = some (.int .i64 0) := (blk_cell BK335.out 3).trans rfl; have hcz16_4 : w13.cell? ⟨gb335, 4, none⟩ = some (.int .i64 0) := (blk_cell BK335.out 4).trans rfl; have hcz16_5 : w13.cell? ⟨gb335, 5, none⟩ = some (.int .i64 0) := (blk_cell BK335.out 5).trans rfl; have hcz16_6 : w13.cell? ⟨gb335, 6, none⟩ = some (.int .i64 0) := (blk_cell BK335.out 6).trans rfl; have hcz16_7 : w13.cell? ⟨gb335, 7, none⟩ = some (.int .i64 0) := (blk_cell BK335.out 7).trans rfl; have hcz16_8 : w13.cell? ⟨gb335, 8, none⟩ = some (.int .i64 0) := (blk_cell BK335.out 8).trans rfl; have hcz16_9 : w13.cell? ⟨gb335, 9, none⟩ = some (.int .i64 0) := (blk_cell BK335.out 9).trans rfl; have hfz16_0 := blk_frozen BK335.out 0; have hfz16_1 := blk_frozen BK335.out 1; have hfz16_2 := blk_frozen BK335.out 2; have hfz16_3 := blk_frozen BK335.out 3; have hfz16_4 := blk_frozen BK335.out 4; have hfz16_5 := blk_frozen BK335.out 5; have hfz16_6 := blk_frozen BK335.out 6; have hfz16_7 := blk_frozen BK335.out 7; have hfz16_8 := blk_frozen BK335.out 8; have hfz16_9 := blk_frozen BK335.out 9) | ((with_reducible refine gate_callee (f := 34) rfl ?_); refine goesL_ (some 6) rfl rfl Try.func34 (by kernel_rfl) rfl #[.pointer (some ⟨g, 0, none⟩)] rfl (by (try simp only [List.map_toArray, List.map_cons, List.map_nil]); first | done | rfl | (simp only [List.length_drop, List.length_take]; rfl)) ?_; (with_reducible refine (platenref20_Reader_number.calls k g s0_0 s0_1 s0_2 t336 t337 t338 w0 _ ?side1 ?side2 A2.out).mono ?_); (case side1 => repeat (first | (with_reducible first | exact HI0.out | apply IsS78.alloc | apply IsS78.drewN | apply IsS78.drew | apply IsS78.set_1 | apply IsS78.set_2 | refine IsS78.far ?_ NB0_334.out _ | refine IsS78.far ?_ NB0_335.out _) | exact HI0.out)); (case side2 => repeat (first | (with_reducible first | exact HB.out | apply below_alloc | apply pw_below_drewN | apply below_drew1 | refine below_set ?_ (IsS78.ge HI0.out) | refine below_set ?_ GE334.out | refine below_set ?_ GE335.out) | exact HB.out)); rintro e w17 ⟨rfl, hi, hb, hk⟩; refine ⟨_, rfl, ?_⟩; have n0_ := Aside0.mk (KeepBut.blk hk (g' := gb334) (o := .cells #[.int .i64 0, .int .i64 0, .string (⟨#[]⟩ : ByteArray), .int .i64 0, .int .i64 0, .int .i64 0, .int .i64 0, .int .i64 0, .int .i64 0, .int .i64 0] 50 (0, 0)) (by (with_reducible repeat (first | refine blk_drewN ?_ _ | refine blk_drew ?_ | refine blk_alloc ?_ _)); refine blk_far ?_ NB334_335.out _; (with_reducible repeat (first | refine blk_drewN ?_ _ | refine blk_drew ?_ | refine blk_alloc ?_ _)); refine blk_far ?_ NB334_335.out _; (with_reducible repeat (first | refine blk_drewN ?_ _ | refine blk_drew ?_ | refine blk_alloc ?_ _)); refine blk_far ?_ NB334_335.out _; (with_reducible repeat (first | refine blk_drewN ?_ _ | refine blk_drew ?_ | refine blk_alloc ?_ _)); refine blk_far ?_ NB334_335.out _; (with_reducible repeat (first | refine blk_drewN ?_ _ | refine blk_drew ?_ | refine blk_alloc ?_ _)); refine blk_far ?_ NB334_335.out _; (with_reducible repeat (first | refine blk_drewN ?_ _ | refine blk_drew ?_ | refine blk_alloc ?_ _)); refine blk_far ?_ NB334_335.out _; (with_reducible repeat (first | refine blk_drewN ?_ _ | refine blk_drew ?_ | refine blk_alloc ?_ _)); refine blk_far ?_ NB334_335.out _; (with_reducible repeat (first | refine blk_drewN ?_ _ | refine blk_drew ?_ | refine blk_alloc ?_ _)); refine blk_far ?_ NB334_335.out _; (with_reducible repeat (first | refine blk_drewN ?_ _ | refine blk_drew ?_ | refine blk_alloc ?_ _)); refine blk_far ?_ NB334_335.out _; (with_reducible repeat (first | refine blk_drewN ?_ _ | refine blk_drew ?_ | refine blk_alloc ?_ _)); refine blk_far ?_ NB334_335.out _; (with_reducible repeat (first | refine blk_drewN ?_ _ | refine blk_drew ?_ | refine blk_alloc ?_ _)); exact BK334.out) NB334_0.out (by simp)); have n1_ := Aside0.mk (KeepBut.blk hk (g' := gb335) (o := .cells #[.int .i64 0, .int .i64 0, .string (⟨#[]⟩ : ByteArray), .int .i64 0, .int .i64 0, .int .i64 0, .int .i64 0, .int .i64 0, .int .i64 0, .int .i64 0] 50 (0, 0)) (by (with_reducible repeat (first | refine blk_drewN ?_ _ | refine blk_drew ?_ | refine blk_alloc ?_ _)); refine blk_put (cs := #[.int .i64 0, .int .i64 0, .string (⟨#[]⟩ : ByteArray), .int .i64 0, .int .i64 0, .int .i64 0, .int .i64 0, .int .i64 0, .int .i64 0, .int .i64 0]) ?_ 9 _ rfl; (with_reducible repeat (first | refine blk_drewN ?_ _ | refine blk_drew ?_ | refine blk_alloc ?_ _)); refine blk_put (cs := #[.int .i64 0, .int .i64 0, .string (⟨#[]⟩ : ByteArray), .int .i64 0, .int .i64 0, .int .i64 0, .int .i64 0, .int .i64 0, .int .i64 0, .int .i64 0]) ?_ 8 _ rfl; (with_reducible repeat (first | refine blk_drewN ?_ _ | refine blk_drew ?_ | refine blk_alloc ?_ _)); refine blk_put (cs := #[.int .i64 0, .int .i64 0, .string (⟨#[]⟩ : ByteArray), .int .i64 0, .int .i64 0, .int .i64 0, .int .i64 0, .int .i64 0, .int .i64 0, .int .i64 0]) ?_ 7 _ rfl; (with_reducible repeat (first | refine blk_drewN ?_ _ | refine blk_drew ?_ | refine blk_alloc ?_ _)); refine blk_put (cs := #[.int .i64 0, .int .i64 0, .string (⟨#[]⟩ : ByteArray), .int .i64 0, .int .i64 0, .int .i64 0, .int .i64 0, .int .i64 0, .int .i64 0, .int .i64 0]) ?_ 6 _ rfl; (with_reducible repeat (first | refine blk_drewN ?_ _ | refine blk_drew ?_ | refine blk_alloc ?_ _)); refine blk_put (cs := #[.int .i64 0, .int .i64 0, .string (⟨#[]⟩ : ByteArray), .int .i64 0, .int .i64 0, .int .i64 0, .int .i64 0, .int .i64 0, .int .i64 0, .int .i64 0]) ?_ 5 _ rfl; (with_reducible repeat (first | refine blk_drewN ?_ _ | refine blk_drew ?_ | refine blk_alloc ?_ _)); refine blk_put (cs := #[.int .i64 0, .int .i64 0, .string (⟨#[]⟩ : ByteArray), .int .i64 0, .int .i64 0, .int .i64 0, .int .i64 0, .int .i64 0, .int .i64 0, .int .i64 0]) ?_ 4 _ rfl; (with_reducible repeat (first | refine blk_drewN ?_ _ | refine blk_drew ?_ | refine blk_alloc ?_ _)); refine blk_put (cs := #[.int .i64 0, .int .i64 0, .string (⟨#[]⟩ : ByteArray), .int .i64 0, .int .i64 0, .int .i64 0, .int .i64 0, .int .i64 0, .int .i64 0, .int .i64 0]) ?_ 3 _ rfl; (with_reducible repeat (first | refine blk_drewN ?_ _ | refine blk_drew ?_ | refine blk_alloc ?_ _)); refine blk_put (cs := #[.int .i64 0, .int .i64 0, .string (⟨#[]⟩ : ByteArray), .int .i64 0, .int .i64 0, .int .i64 0, .int .i64 0, .int .i64 0, .int .i64 0, .int .i64 0]) ?_ 2 _ rfl; (with_reducible repeat (first | refine blk_drewN ?_ _ | refine blk_drew ?_ | refine blk_alloc ?_ _)); refine blk_put (cs := #[.int .i64 0, .int .i64 0, .string (⟨#[]⟩ : ByteArray), .int .i64 0, .int .i64 0, .int .i64 0, .int .i64 0, .int .i64 0, .int .i64 0, .int .i64 0]) ?_ 1 _ rfl; (with_reducible repeat (first | refine blk_drewN ?_ _ | refine blk_drew ?_ | refine blk_alloc ?_ _)); refine blk_put (cs := #[.int .i64 0, .int .i64 0, .string (⟨#[]⟩ : ByteArray), .int .i64 0, .int .i64 0, .int .i64 0, .int .i64 0, .int .i64 0, .int .i64 0, .int .i64 0]) ?_ 0 _ rfl; (with_reducible repeat (first | refine blk_drewN ?_ _ | refine blk_drew ?_ | refine blk_alloc ?_ _)); exact BK335.out) NB335_0.out (by simp)); have n2_ := Aside0.mk (KeepBut.trans (by repeat (first | (with_reducible first | exact HK.out | apply KeepBut.set_ | apply keep_drewN | apply keep_drew | apply keep_alloc | refine keep_far ?_ GW334.out _ | refine keep_far ?_ GW335.out _) | exact HK.out)) hk (.inl rfl)); have n3_ := Aside0.mk (hb); have n4_ := Aside0.mk (hi); clear BK334; clear BK335; clear HK; clear HB; clear HI0; have BK334 := n0_; have BK335 := n1_; have HK := n2_; have HB := n3_; have HI0 := n4_; clear n0_ n1_ n2_ n3_ n4_; (try clear hb); (try clear hb2); (try clear hk); (try clear hi); have hcz18_0 : w17.cell? ⟨gb335, 0, none⟩ = some (.int .i64 0) := (blk_cell BK335.out 0).trans rfl; have hcz18_1 : w17.cell? ⟨gb335, 1, none⟩ = some (.int .i64 0) := (blk_cell BK335.out 1).trans rfl; have hcz18_2 : w17.cell? ⟨gb335, 2, none⟩ = some (.string (⟨#[]⟩ : ByteArray)) := (blk_cell BK335.out 2).trans rfl; have hcz18_3 : w17.cell? ⟨gb335, 3, none⟩ = some (.int .i64 0) := (blk_cell BK335.out 3).trans rfl; have hcz18_4 : w17.cell? ⟨gb335, 4, none⟩ = some (.int .i64 0) := (blk_cell BK335.out 4).trans rfl; have hcz18_5 : w17.cell? ⟨gb335, 5, none⟩ = some (.int .i64 0) := (blk_cell BK335.out 5).trans rfl; have hcz18_6 : w17.cell? ⟨gb335, 6, none⟩ = some (.int .i64 0) := (blk_cell BK335.out 6).trans rfl; have hcz18_7 : w17.cell? ⟨gb335, 7, none⟩ = some (.int .i64 0) := (blk_cell BK335.out 7).trans rfl; have hcz18_8 : w17.cell? ⟨gb335, 8, none⟩ = some (.int .i64 0) := (blk_cell BK335.out 8).trans rfl; have hcz18_9 : w17.cell? ⟨gb335, 9, none⟩ = some (.int .i64 0) := (blk_cell BK335.out 9).trans rfl; have hfz18_0 := blk_frozen BK335.out 0; have hfz18_1 := blk_frozen BK335.out 1; have hfz18_2 := blk_frozen BK335.out 2; have hfz18_3 := blk_frozen BK335.out 3; have hfz18_4 := blk_frozen BK335.out 4; have hfz18_5 := blk_frozen BK335.out 5; have hfz18_6 := blk_frozen BK335.out 6; have hfz18_7 := blk_frozen BK335.out 7; have hfz18_8 := blk_frozen BK335.out 8; have hfz18_9 := blk_frozen BK335.out 9) | ((with_reducible refine gate_callee (f := 34) rfl ?_); refine goesL_ (some 9) rfl rfl Try.func34 (by kernel_rfl) rfl #[.pointer (some ⟨g, 0, none⟩)] rfl (by (try simp only [List.map_toArray, List.map_cons, List.map_nil]); first | done | rfl | (simp only [List.length_drop, List.length_take]; rfl)) ?_; (with_reducible refine (platenref20_Reader_number.calls k g s0_0 t337 t338 t339 t340 t341 w0 _ ?side1 ?side2 A3.out).mono ?_); (case side1 => repeat (first | (with_reducible first | exact HI0.out | apply IsS78.alloc | apply IsS78.drewN | apply IsS78.drew | apply IsS78.set_1 | apply IsS78.set_2 | refine IsS78.far ?_ NB0_334.out _ | refine IsS78.far ?_ NB0_335.out _) | exact HI0.out)); (case side2 => repeat (first | (with_reducible first | exact HB.out | apply below_alloc | apply pw_below_drewN | apply below_drew1 | refine below_set ?_ (IsS78.ge HI0.out) | refine below_set ?_ GE334.out | refine below_set ?_ GE335.out) | exact HB.out)); rintro e w19 ⟨rfl, hi, hb, hk⟩; refine ⟨_, rfl, ?_⟩; have n0_ := Aside0.mk (KeepBut.blk hk (g' := gb334) (o := .cells #[.int .i64 0, .int .i64 0, .string (⟨#[]⟩ : ByteArray), .int .i64 0, .int .i64 0, .int .i64 0, .int .i64 0, .int .i64 0, .int .i64 0, .int .i64 0] 50 (0, 0)) (by (with_reducible repeat (first | refine blk_drewN ?_ _ | refine blk_drew ?_ | refine blk_alloc ?_ _)); refine blk_far ?_ NB334_335.out _; (with_reducible repeat (first | refine blk_drewN ?_ _ | refine blk_drew ?_ | refine blk_alloc ?_ _)); exact BK334.out) NB334_0.out (by simp)); have n1_ := Aside0.mk (KeepBut.blk hk (g' := gb335) (o := .cells #[.int .i64 t336, .int .i64 0, .string (⟨#[]⟩ : ByteArray), .int .i64 0, .int .i64 0, .int .i64 0, .int .i64 0, .int .i64 0, .int .i64 0, .int .i64 0] 50 (0, 0)) (by (with_reducible repeat (first | refine blk_drewN ?_ _ | refine blk_drew ?_ | refine blk_alloc ?_ _)); refine blk_put (cs := #[.int .i64 0, .int .i64 0, .string (⟨#[]⟩ : ByteArray), .int .i64 0, .int .i64 0, .int .i64 0, .int .i64 0, .int .i64 0, .int .i64 0, .int .i64 0]) ?_ 0 _ rfl; (with_reducible repeat (first | refine blk_drewN ?_ _ | refine blk_drew ?_ | refine blk_alloc ?_ _)); exact BK335.out) NB335_0.out (by simp)); have n2_ := Aside0.mk (KeepBut.trans (by repeat (first | (with_reducible first | exact HK.out | apply KeepBut.set_ | apply keep_drewN | apply keep_drew | apply keep_alloc | refine keep_far ?_ GW334.out _ | refine keep_far ?_ GW335.out _) | exact HK.out)) hk (.inl rfl)); have n3_ := Aside0.mk (hb); have n4_ := Aside0.mk (hi); clear BK334; clear BK335; clear HK; clear HB; clear HI0; have BK334 := n0_; have BK335 := n1_; have HK := n2_; have HB := n3_; have HI0 := n4_; clear n0_ n1_ n2_ n3_ n4_; (try clear hb); (try clear hb2); (try clear hk); (try clear hi); have hcz20_0 : w19.cell? ⟨gb335, 0, none⟩ = some (.int .i64 t336) := (blk_cell BK335.out 0).trans rfl; have hcz20_1 : w19.cell? ⟨gb335, 1, none⟩ = some (.int .i64 0) := (blk_cell BK335.out 1).trans rfl; have hcz20_2 : w19.cell? ⟨gb335, 2, none⟩ = some (.string (⟨#[]⟩ : ByteArray)) := (blk_cell BK335.out 2).trans rfl; have hcz20_3 : w19.cell? ⟨gb335, 3, none⟩ = some (.int .i64 0) := (blk_cell BK335.out 3).trans rfl; have hcz20_4 : w19.cell? ⟨gb335, 4, none⟩ = some (.int .i64 0) := (blk_cell BK335.out 4).trans rfl; have hcz20_5 : w19.cell? ⟨gb335, 5, none⟩ = some (.int .i64 0) := (blk_cell BK335.out 5).trans rfl; have hcz20_6 : w19.cell? ⟨gb335, 6, none⟩ = some (.int .i64 0) := (blk_cell BK335.out 6).trans rfl; have hcz20_7 : w19.cell? ⟨gb335, 7, none⟩ = some (.int .i64 0) := (blk_cell BK335.out 7).trans rfl; have hcz20_8 : w19.cell? ⟨gb335, 8, none⟩ = some (.int .i64 0) := (blk_cell BK335.out 8).trans rfl; have hcz20_9 : w19.cell? ⟨gb335, 9, none⟩ = some (.int .i64 0) := (blk_cell BK335.out 9).trans rfl; have hfz20_0 := blk_frozen BK335.out 0; have hfz20_1 := blk_frozen BK335.out 1; have hfz20_2 := blk_frozen BK335.out 2; have hfz20_3 := blk_frozen BK335.out 3; have hfz20_4 := blk_frozen BK335.out 4; have hfz20_5 := blk_frozen BK335.out 5; have hfz20_6 := blk_frozen BK335.out 6; have hfz20_7 := blk_frozen BK335.out 7; have hfz20_8 := blk_frozen BK335.out 8; have hfz20_9 := blk_frozen BK335.out 9) | ((with_reducible refine gate_callee (f := 50) rfl ?_); refine goesL_ (some 12) rfl rfl Try.func50 (by kernel_rfl) rfl #[.pointer (some ⟨g, 0, none⟩)] rfl (by (try simp only [List.map_toArray, List.map_cons, List.map_nil]); first | done | rfl | (simp only [List.length_drop, List.length_take]; rfl)) ?_; (with_reducible refine (platenref20_Reader_Text.calls k g s0_0 t340 t341 t342 t343 t344 w0 _ ?side1 ?side2 A4.out).mono ?_); (case side1 => repeat (first | (with_reducible first | exact HI0.out | apply IsS78.alloc | apply IsS78.drewN | apply IsS78.drew | apply IsS78.set_1 | apply IsS78.set_2 | refine IsS78.far ?_ NB0_334.out _ | refine IsS78.far ?_ NB0_335.out _) | exact HI0.out)); (case side2 => repeat (first | (with_reducible first | exact HB.out | apply below_alloc | apply pw_below_drewN | apply below_drew1 | refine below_set ?_ (IsS78.ge HI0.out) | refine below_set ?_ GE334.out | refine below_set ?_ GE335.out) | exact HB.out)); rintro e w21 ⟨rfl, hi, hb, hk⟩; refine ⟨_, rfl, ?_⟩; have n0_ := Aside0.mk (KeepBut.blk hk (g' := gb334) (o := .cells #[.int .i64 0, .int .i64 0, .string (⟨#[]⟩ : ByteArray), .int .i64 0, .int .i64 0, .int .i64 0, .int .i64 0, .int .i64 0, .int .i64 0, .int .i64 0] 50 (0, 0)) (by (with_reducible repeat (first | refine blk_drewN ?_ _ | refine blk_drew ?_ | refine blk_alloc ?_ _)); refine blk_far ?_ NB334_335.out _; (with_reducible repeat (first | refine blk_drewN ?_ _ | refine blk_drew ?_ | refine blk_alloc ?_ _)); exact BK334.out) NB334_0.out (by simp)); have n1_ := Aside0.mk (KeepBut.blk hk (g' := gb335) (o := .cells #[.int .i64 t336, .int .i64 t339, .string (⟨#[]⟩ : ByteArray), .int .i64 0, .int .i64 0, .int .i64 0, .int .i64 0, .int .i64 0, .int .i64 0, .int .i64 0] 50 (0, 0)) (by (with_reducible repeat (first | refine blk_drewN ?_ _ | refine blk_drew ?_ | refine blk_alloc ?_ _)); refine blk_put (cs := #[.int .i64 t336, .int .i64 0, .string (⟨#[]⟩ : ByteArray), .int .i64 0, .int .i64 0, .int .i64 0, .int .i64 0, .int .i64 0, .int .i64 0, .int .i64 0]) ?_ 1 _ rfl; (with_reducible repeat (first | refine blk_drewN ?_ _ | refine blk_drew ?_ | refine blk_alloc ?_ _)); exact BK335.out) NB335_0.out (by simp)); have n2_ := Aside0.mk (KeepBut.trans (by repeat (first | (with_reducible first | exact HK.out | apply KeepBut.set_ | apply keep_drewN | apply keep_drew | apply keep_alloc | refine keep_far ?_ GW334.out _ | refine keep_far ?_ GW335.out _) | exact HK.out)) hk (.inl rfl)); have n3_ := Aside0.mk (hb); have n4_ := Aside0.mk (hi); clear BK334; clear BK335; clear HK; clear HB; clear HI0; have BK334 := n0_; have BK335 := n1_; have HK := n2_; have HB := n3_; have HI0 := n4_; clear n0_ n1_ n2_ n3_ n4_; (try clear hb); (try clear hb2); (try clear hk); (try clear hi); have hcz22_0 : w21.cell? ⟨gb335, 0, none⟩ = some (.int .i64 t336) := (blk_cell BK335.out 0).trans rfl; have hcz22_1 : w21.cell? ⟨gb335, 1, none⟩ = some (.int .i64 t339) := (blk_cell BK335.out 1).trans rfl; have hcz22_2 : w21.cell? ⟨gb335, 2, none⟩ = some (.string (⟨#[]⟩ : ByteArray)) := (blk_cell BK335.out 2).trans rfl; have hcz22_3 : w21.cell? ⟨gb335, 3, none⟩ = some (.int .i64 0) := (blk_cell BK335.out 3).trans rfl; have hcz22_4 : w21.cell? ⟨gb335, 4, none⟩ = some (.int .i64 0) := (blk_cell BK335.out 4).trans rfl; have hcz22_5 : w21.cell? ⟨gb335, 5, none⟩ = some (.int .i64 0) := (blk_cell BK335.out 5).trans rfl; have hcz22_6 : w21.cell? ⟨gb335, 6, none⟩ = some (.int .i64 0) := (blk_cell BK335.out 6).trans rfl; have hcz22_7 : w21.cell? ⟨gb335, 7, none⟩ = some (.int .i64 0) := (blk_cell BK335.out 7).trans rfl; have hcz22_8 : w21.cell? ⟨gb335, 8, none⟩ = some (.int .i64 0) := (blk_cell BK335.out 8).trans rfl; have hcz22_9 : w21.cell? ⟨gb335, 9, none⟩ = some (.int .i64 0) := (blk_cell BK335.out 9).trans rfl; have hfz22_0 := blk_frozen BK335.out 0; have hfz22_1 := blk_frozen BK335.out 1; have hfz22_2 := blk_frozen BK335.out 2; have hfz22_3 := blk_frozen BK335.out 3; have hfz22_4 := blk_frozen BK335.out 4; have hfz22_5 := blk_frozen BK335.out 5; have hfz22_6 := blk_frozen BK335.out 6; have hfz22_7 := blk_frozen BK335.out 7; have hfz22_8 := blk_frozen BK335.out 8; have hfz22_9 := blk_frozen BK335.out 9) | ((with_reducible refine gate_callee (f := 34) rfl ?_); refine goesL_ (some 15) rfl rfl Try.func34 (by kernel_rfl) rfl #[.pointer (some ⟨g, 0, none⟩)] rfl (by (try simp only [List.map_toArray, List.map_cons, List.map_nil]); first | done | rfl | (simp only [List.length_drop, List.length_take]; rfl)) ?_; (with_reducible refine (platenref20_Reader_number.calls k g s0_0 t343 t344 t345 t346 t347 w0 _ ?side1 ?side2 A5.out).mono ?_); (case side1 => repeat (first | (with_reducible first | exact HI0.out | apply IsS78.alloc | apply IsS78.drewN | apply IsS78.drew | apply IsS78.set_1 | apply IsS78.set_2 | refine IsS78.far ?_ NB0_334.out _ | refine IsS78.far ?_ NB0_335.out _) | exact HI0.out)); (case side2 => repeat (first | (with_reducible first | exact HB.out | apply below_alloc | apply pw_below_drewN | apply below_drew1 | refine below_set ?_ (IsS78.ge HI0.out) | refine below_set ?_ GE334.out | refine below_set ?_ GE335.out) | exact HB.out)); rintro e w23 ⟨rfl, hi, hb, hk⟩; refine ⟨_, rfl, ?_⟩; have n0_ := Aside0.mk (KeepBut.blk hk (g' := gb334) (o := .cells #[.int .i64 0, .int .i64 0, .string (⟨#[]⟩ : ByteArray), .int .i64 0, .int .i64 0, .int .i64 0, .int .i64 0, .int .i64 0, .int .i64 0, .int .i64 0] 50 (0, 0)) (by (with_reducible repeat (first | refine blk_drewN ?_ _ | refine blk_drew ?_ | refine blk_alloc ?_ _)); refine blk_far ?_ NB334_335.out _; (with_reducible repeat (first | refine blk_drewN ?_ _ | refine blk_drew ?_ | refine blk_alloc ?_ _)); exact BK334.out) NB334_0.out (by simp)); have n1_ := Aside0.mk (KeepBut.blk hk (g' := gb335) (o := .cells #[.int .i64 t336, .int .i64 t339, .string t342, .int .i64 0, .int .i64 0, .int .i64 0, .int .i64 0, .int .i64 0, .int .i64 0, .int .i64 0] 50 (0, 0)) (by (with_reducible repeat (first | refine blk_drewN ?_ _ | refine blk_drew ?_ | refine blk_alloc ?_ _)); refine blk_put (cs := #[.int .i64 t336, .int .i64 t339, .string (⟨#[]⟩ : ByteArray), .int .i64 0, .int .i64 0, .int .i64 0, .int .i64 0, .int .i64 0, .int .i64 0, .int .i64 0]) ?_ 2 _ rfl; (with_reducible repeat (first | refine blk_drewN ?_ _ | refine blk_drew ?_ | refine blk_alloc ?_ _)); exact BK335.out) NB335_0.out (by simp)); have n2_ := Aside0.mk (KeepBut.trans (by repeat (first | (with_reducible first | exact HK.out | apply KeepBut.set_ | apply keep_drewN | apply keep_drew | apply keep_alloc | refine keep_far ?_ GW334.out _ | refine keep_far ?_ GW335.out _) | exact HK.out)) hk (.inl rfl)); have n3_ := Aside0.mk (hb); have n4_ := Aside0.mk (hi); clear BK334; clear BK335; clear HK; clear HB; clear HI0; have BK334 := n0_; have BK335 := n1_; have HK := n2_; have HB := n3_; have HI0 := n4_; clear n0_ n1_ n2_ n3_ n4_; (try clear hb); (try clear hb2); (try clear hk); (try clear hi); have hcz24_0 : w23.cell? ⟨gb335, 0, none⟩ = some (.int .i64 t336) := (blk_cell BK335.out 0).trans rfl; have hcz24_1 : w23.cell? ⟨gb335, 1, none⟩ = some (.int .i64 t339) := (blk_cell BK335.out 1).trans rfl; have hcz24_2 : w23.cell? ⟨gb335, 2, none⟩ = some (.string t342) := (blk_cell BK335.out 2).trans rfl; have hcz24_3 : w23.cell? ⟨gb335, 3, none⟩ = some (.int .i64 0) := (blk_cell BK335.out 3).trans rfl; have hcz24_4 : w23.cell? ⟨gb335, 4, none⟩ = some (.int .i64 0) := (blk_cell BK335.out 4).trans rfl; have hcz24_5 : w23.cell? ⟨gb335, 5, none⟩ = some (.int .i64 0) := (blk_cell BK335.out 5).trans rfl; have hcz24_6 : w23.cell? ⟨gb335, 6, none⟩ = some (.int .i64 0) := (blk_cell BK335.out 6).trans rfl; have hcz24_7 : w23.cell? ⟨gb335, 7, none⟩ = some (.int .i64 0) := (blk_cell BK335.out 7).trans rfl; have hcz24_8 : w23.cell? ⟨gb335, 8, none⟩ = some (.int .i64 0) := (blk_cell BK335.out 8).trans rfl; have hcz24_9 : w23.cell? ⟨gb335, 9, none⟩ = some (.int .i64 0) := (blk_cell BK335.out 9).trans rfl; have hfz24_0 := blk_frozen BK335.out 0; have hfz24_1 := blk_frozen BK335.out 1; have hfz24_2 := blk_frozen BK335.out 2; have hfz24_3 := blk_frozen BK335.out 3; have hfz24_4 := blk_frozen BK335.out 4; have hfz24_5 := blk_frozen BK335.out 5; have hfz24_6 := blk_frozen BK335.out 6; have hfz24_7 := blk_frozen BK335.out 7; have hfz24_8 := blk_frozen BK335.out 8; have hfz24_9 := blk_frozen BK335.out 9) | ((with_reducible refine gate_callee (f := 34) rfl ?_); refine goesL_ (some 18) rfl rfl Try.func34 (by kernel_rfl) rfl #[.pointer (some ⟨g, 0, none⟩)] rfl (by (try simp only [List.map_toArray, List.map_cons, List.map_nil]); first | done | rfl | (simp only [List.length_drop, List.length_take]; rfl)) ?_; (with_reducible refine (platenref20_Reader_number.calls k g s0_0 t346 t347 t348 t349 t350 w0 _ ?side1 ?side2 A6.out).mono ?_); (case side1 => repeat (first | (with_reducible first | exact HI0.out | apply IsS78.alloc | apply IsS78.drewN | apply IsS78.drew | apply IsS78.set_1 | apply IsS78.set_2 | refine IsS78.far ?_ NB0_334.out _ | refine IsS78.far ?_ NB0_335.out _) | exact HI0.out)); (case side2 => repeat (first | (with_reducible first | exact HB.out | apply below_alloc | apply pw_below_drewN | apply below_drew1 | refine below_set ?_ (IsS78.ge HI0.out) | refine below_set ?_ GE334.out | refine below_set ?_ GE335.out) | exact HB.out)); rintro e w25 ⟨rfl, hi, hb, hk⟩; refine ⟨_, rfl, ?_⟩; have n0_ := Aside0.mk (KeepBut.blk hk (g' := gb334) (o := .cells #[.int .i64 0, .int .i64 0, .string (⟨#[]⟩ : ByteArray), .int .i64 0, .int .i64 0, .int .i64 0, .int .i64 0, .int .i64 0, .int .i64 0, .int .i64 0] 50 (0, 0)) (by (with_reducible repeat (first | refine blk_drewN ?_ _ | refine blk_drew ?_ | refine blk_alloc ?_ _)); refine blk_far ?_ NB334_335.out _; (with_reducible repeat (first | refine blk_drewN ?_ _ | refine blk_drew ?_ | refine blk_alloc ?_ _)); exact BK334.out) NB334_0.out (by simp)); have n1_ := Aside0.mk (KeepBut.blk hk (g' := gb335) (o := .cells #[.int .i64 t336, .int .i64 t339, .string t342, .int .i64 t345, .int .i64 0, .int .i64 0, .int .i64 0, .int .i64 0, .int .i64 0, .int .i64 0] 50 (0, 0)) (by (with_reducible repeat (first | refine blk_drewN ?_ _ | refine blk_drew ?_ | refine blk_alloc ?_ _)); refine blk_put (cs := #[.int .i64 t336, .int .i64 t339, .string t342, .int .i64 0, .int .i64 0, .int .i64 0, .int .i64 0, .int .i64 0, .int .i64 0, .int .i64 0]) ?_ 3 _ rfl; (with_reducible repeat (first | refine blk_drewN ?_ _ | refine blk_drew ?_ | refine blk_alloc ?_ _)); exact BK335.out) NB335_0.out (by simp)); have n2_ := Aside0.mk (KeepBut.trans (by repeat (first | (with_reducible first | exact HK.out | apply KeepBut.set_ | apply keep_drewN | apply keep_drew | apply keep_alloc | refine keep_far ?_ GW334.out _ | refine keep_far ?_ GW335.out _) | exact HK.out)) hk (.inl rfl)); have n3_ := Aside0.mk (hb); have n4_ := Aside0.mk (hi); clear BK334; clear BK335; clear HK; clear HB; clear HI0; have BK334 := n0_; have BK335 := n1_; have HK := n2_; have HB := n3_; have HI0 := n4_; clear n0_ n1_ n2_ n3_ n4_; (try clear hb); (try clear hb2); (try clear hk); (try clear hi); have hcz26_0 : w25.cell? ⟨gb335, 0, none⟩ = some (.int .i64 t336) := (blk_cell BK335.out 0).trans rfl; have hcz26_1 : w25.cell? ⟨gb335, 1, none⟩ = some (.int .i64 t339) := (blk_cell BK335.out 1).trans rfl; have hcz26_2 : w25.cell? ⟨gb335, 2, none⟩ = some (.string t342) := (blk_cell BK335.out 2).trans rfl; have hcz26_3 : w25.cell? ⟨gb335, 3, none⟩ = some (.int .i64 t345) := (blk_cell BK335.out 3).trans rfl; have hcz26_4 : w25.cell? ⟨gb335, 4, none⟩ = some (.int .i64 0) := (blk_cell BK335.out 4).trans rfl; have hcz26_5 : w25.cell? ⟨gb335, 5, none⟩ = some (.int .i64 0) := (blk_cell BK335.out 5).trans rfl; have hcz26_6 : w25.cell? ⟨gb335, 6, none⟩ = some (.int .i64 0) := (blk_cell BK335.out 6).trans rfl; have hcz26_7 : w25.cell? ⟨gb335, 7, none⟩ = some (.int .i64 0) := (blk_cell BK335.out 7).trans rfl; have hcz26_8 : w25.cell? ⟨gb335, 8, none⟩ = some (.int .i64 0) := (blk_cell BK335.out 8).trans rfl; have hcz26_9 : w25.cell? ⟨gb335, 9, none⟩ = some (.int .i64 0) := (blk_cell BK335.out 9).trans rfl; have hfz26_0 := blk_frozen BK335.out 0; have hfz26_1 := blk_frozen BK335.out 1; have hfz26_2 := blk_frozen BK335.out 2; have hfz26_3 := blk_frozen BK335.out 3; have hfz26_4 := blk_frozen BK335.out 4; have hfz26_5 := blk_frozen BK335.out 5; have hfz26_6 := blk_frozen BK335.out 6; have hfz26_7 := blk_frozen BK335.out 7; have hfz26_8 := blk_frozen BK335.out 8; have hfz26_9 := blk_frozen BK335.out 9) | ((with_reducible refine gate_callee (f := 34) rfl ?_); refine goesL_ (some 21) rfl rfl Try.func34 (by kernel_rfl) rfl #[.pointer (some ⟨g, 0, none⟩)] rfl (by (try simp only [List.map_toArray, List.map_cons, List.map_nil]); first | done | rfl | (simp only [List.length_drop, List.length_take]; rfl)) ?_; (with_reducible refine (platenref20_Reader_number.calls k g s0_0 t349 t350 t351 t352 t353 w0 _ ?side1 ?side2 A7.out).mono ?_); (case side1 => repeat (first | (with_reducible first | exact HI0.out | apply IsS78.alloc | apply IsS78.drewN | apply IsS78.drew | apply IsS78.set_1 | apply IsS78.set_2 | refine IsS78.far ?_ NB0_334.out _ | refine IsS78.far ?_ NB0_335.out _) | exact HI0.out)); (case side2 => repeat (first | (with_reducible first | exact HB.out | apply below_alloc | apply pw_below_drewN | apply below_drew1 | refine below_set ?_ (IsS78.ge HI0.out) | refine below_set ?_ GE334.out | refine below_set ?_ GE335.out) | exact HB.out)); rintro e w27 ⟨rfl, hi, hb, hk⟩; refine ⟨_, rfl, ?_⟩; have n0_ := Aside0.mk (KeepBut.blk hk (g' := gb334) (o := .cells #[.int .i64 0, .int .i64 0, .string (⟨#[]⟩ : ByteArray), .int .i64 0, .int .i64 0, .int .i64 0, .int .i64 0, .int .i64 0, .int .i64 0, .int .i64 0] 50 (0, 0)) (by (with_reducible repeat (first | refine blk_drewN ?_ _ | refine blk_drew ?_ | refine blk_alloc ?_ _)); refine blk_far ?_ NB334_335.out _; (with_reducible repeat (first | refine blk_drewN ?_ _ | refine blk_drew ?_ | refine blk_alloc ?_ _)); exact BK334.out) NB334_0.out (by simp)); have n1_ := Aside0.mk (KeepBut.blk hk (g' := gb335) (o := .cells #[.int .i64 t336, .int .i64 t339, .string t342, .int .i64 t345, .int .i64 t348, .int .i64 0, .int .i64 0, .int .i64 0, .int .i64 0, .int .i64 0] 50 (0, 0)) (by (with_reducible repeat (first | refine blk_drewN ?_ _ | refine blk_drew ?_ | refine blk_alloc ?_ _)); refine blk_put (cs := #[.int .i64 t336, .int .i64 t339, .string t342, .int .i64 t345, .int .i64 0, .int .i64 0, .int .i64 0, .int .i64 0, .int .i64 0, .int .i64 0]) ?_ 4 _ rfl; (with_reducible repeat (first | refine blk_drewN ?_ _ | refine blk_drew ?_ | refine blk_alloc ?_ _)); exact BK335.out) NB335_0.out (by simp)); have n2_ := Aside0.mk (KeepBut.trans (by repeat (first | (with_reducible first | exact HK.out | apply KeepBut.set_ | apply keep_drewN | apply keep_drew | apply keep_alloc | refine keep_far ?_ GW334.out _ | refine keep_far ?_ GW335.out _) | exact HK.out)) hk (.inl rfl)); have n3_ := Aside0.mk (hb); have n4_ := Aside0.mk (hi); clear BK334; clear BK335; clear HK; clear HB; clear HI0; have BK334 := n0_; have BK335 := n1_; have HK := n2_; have HB := n3_; have HI0 := n4_; clear n0_ n1_ n2_ n3_ n4_; (try clear hb); (try clear hb2); (try clear hk); (try clear hi); have hcz28_0 : w27.cell? ⟨gb335, 0, none⟩ = some (.int .i64 t336) := (blk_cell BK335.out 0).trans rfl; have hcz28_1 : w27.cell? ⟨gb335, 1, none⟩ = some (.int .i64 t339) := (blk_cell BK335.out 1).trans rfl; have hcz28_2 : w27.cell? ⟨gb335, 2, none⟩ = some (.string t342) := (blk_cell BK335.out 2).trans rfl; have hcz28_3 : w27.cell? ⟨gb335, 3, none⟩ = some (.int .i64 t345) := (blk_cell BK335.out 3).trans rfl; have hcz28_4 : w27.cell? ⟨gb335, 4, none⟩ = some (.int .i64 t348) := (blk_cell BK335.out 4).trans rfl; have hcz28_5 : w27.cell? ⟨gb335, 5, none⟩ = some (.int .i64 0) := (blk_cell BK335.out 5).trans rfl; have hcz28_6 : w27.cell? ⟨gb335, 6, none⟩ = some (.int .i64 0) := (blk_cell BK335.out 6).trans rfl; have hcz28_7 : w27.cell? ⟨gb335, 7, none⟩ = some (.int .i64 0) := (blk_cell BK335.out 7).trans rfl; have hcz28_8 : w27.cell? ⟨gb335, 8, none⟩ = some (.int .i64 0) := (blk_cell BK335.out 8).trans rfl; have hcz28_9 : w27.cell? ⟨gb335, 9, none⟩ = some (.int .i64 0) := (blk_cell BK335.out 9).trans rfl; have hfz28_0 := blk_frozen BK335.out 0; have hfz28_1 := blk_frozen BK335.out 1; have hfz28_2 := blk_frozen BK335.out 2; have hfz28_3 := blk_frozen BK335.out 3; have hfz28_4 := blk_frozen BK335.out 4; have hfz28_5 := blk_frozen BK335.out 5; have hfz28_6 := blk_frozen BK335.out 6; have hfz28_7 := blk_frozen BK335.out 7; have hfz28_8 := blk_frozen BK335.out 8; have hfz28_9 := blk_frozen BK335.out 9) | ((with_reducible refine gate_callee (f := 34) rfl ?_); refine goesL_ (some 24) rfl rfl Try.func34 (by kernel_rfl) rfl #[.pointer (some ⟨g, 0, none⟩)] rfl (by (try simp only [List.map_toArray, List.map_cons, List.map_nil]); first | done | rfl | (simp only [List.length_drop, List.length_take]; rfl)) ?_; (with_reducible refine (platenref20_Reader_number.calls k g s0_0 t352 t353 t354 t355 t356 w0 _ ?side1 ?side2 A8.out).mono ?_); (case side1 => repeat (first | (with_reducible first | exact HI0.out | apply IsS78.alloc | apply IsS78.drewN | apply IsS78.drew | apply IsS78.set_1 | apply IsS78.set_2 | refine IsS78.far ?_ NB0_334.out _ | refine IsS78.far ?_ NB0_335.out _) | exact HI0.out)); (case side2 => repeat (first | (with_reducible first | exact HB.out | apply below_alloc | apply pw_below_drewN | apply below_drew1 | refine below_set ?_ (IsS78.ge HI0.out) | refine below_set ?_ GE334.out | refine below_set ?_ GE335.out) | exact HB.out)); rintro e w29 ⟨rfl, hi, hb, hk⟩; refine ⟨_, rfl, ?_⟩; have n0_ := Aside0.mk (KeepBut.blk hk (g' := gb334) (o := .cells #[.int .i64 0, .int .i64 0, .string (⟨#[]⟩ : ByteArray), .int .i64 0, .int .i64 0, .int .i64 0, .int .i64 0, .int .i64 0, .int .i64 0, .int .i64 0] 50 (0, 0)) (by (with_reducible repeat (first | refine blk_drewN ?_ _ | refine blk_drew ?_ | refine blk_alloc ?_ _)); refine blk_far ?_ NB334_335.out _; (with_reducible repeat (first | refine blk_drewN ?_ _ | refine blk_drew ?_ | refine blk_alloc ?_ _)); exact BK334.out) NB334_0.out (by simp)); have n1_ := Aside0.mk (KeepBut.blk hk (g' := gb335) (o := .cells #[.int .i64 t336, .int .i64 t339, .string t342, .int .i64 t345, .int .i64 t348, .int .i64 t351, .int .i64 0, .int .i64 0, .int .i64 0, .int .i64 0] 50 (0, 0)) (by (with_reducible repeat (first | refine blk_drewN ?_ _ | refine blk_drew ?_ | refine blk_alloc ?_ _)); refine blk_put (cs := #[.int .i64 t336, .int .i64 t339, .string t342, .int .i64 t345, .int .i64 t348, .int .i64 0, .int .i64 0, .int .i64 0, .int .i64 0, .int .i64 0]) ?_ 5 _ rfl; (with_reducible repeat (first | refine blk_drewN ?_ _ | refine blk_drew ?_ | refine blk_alloc ?_ _)); exact BK335.out) NB335_0.out (by simp)); have n2_ := Aside0.mk (KeepBut.trans (by repeat (first | (with_reducible first | exact HK.out | apply KeepBut.set_ | apply keep_drewN | apply keep_drew | apply keep_alloc | refine keep_far ?_ GW334.out _ | refine keep_far ?_ GW335.out _) | exact HK.out)) hk (.inl rfl)); have n3_ := Aside0.mk (hb); have n4_ := Aside0.mk (hi); clear BK334; clear BK335; clear HK; clear HB; clear HI0; have BK334 := n0_; have BK335 := n1_; have HK := n2_; have HB := n3_; have HI0 := n4_; clear n0_ n1_ n2_ n3_ n4_; (try clear hb); (try clear hb2); (try clear hk); (try clear hi); have hcz30_0 : w29.cell? ⟨gb335, 0, none⟩ = some (.int .i64 t336) := (blk_cell BK335.out 0).trans rfl; have hcz30_1 : w29.cell? ⟨gb335, 1, none⟩ = some (.int .i64 t339) := (blk_cell BK335.out 1).trans rfl; have hcz30_2 : w29.cell? ⟨gb335, 2, none⟩ = some (.string t342) := (blk_cell BK335.out 2).trans rfl; have hcz30_3 : w29.cell? ⟨gb335, 3, none⟩ = some (.int .i64 t345) := (blk_cell BK335.out 3).trans rfl; have hcz30_4 : w29.cell? ⟨gb335, 4, none⟩ = some (.int .i64 t348) := (blk_cell BK335.out 4).trans rfl; have hcz30_5 : w29.cell? ⟨gb335, 5, none⟩ = some (.int .i64 t351) := (blk_cell BK335.out 5).trans rfl; have hcz30_6 : w29.cell? ⟨gb335, 6, none⟩ = some (.int .i64 0) := (blk_cell BK335.out 6).trans rfl; have hcz30_7 : w29.cell? ⟨gb335, 7, none⟩ = some (.int .i64 0) := (blk_cell BK335.out 7).trans rfl; have hcz30_8 : w29.cell? ⟨gb335, 8, none⟩ = some (.int .i64 0) := (blk_cell BK335.out 8).trans rfl; have hcz30_9 : w29.cell? ⟨gb335, 9, none⟩ = some (.int .i64 0) := (blk_cell BK335.out 9).trans rfl; have hfz30_0 := blk_frozen BK335.out 0; have hfz30_1 := blk_frozen BK335.out 1; have hfz30_2 := blk_frozen BK335.out 2; have hfz30_3 := blk_frozen BK335.out 3; have hfz30_4 := blk_frozen BK335.out 4; have hfz30_5 := blk_frozen BK335.out 5; have hfz30_6 := blk_frozen BK335.out 6; have hfz30_7 := blk_frozen BK335.out 7; have hfz30_8 := blk_frozen BK335.out 8; have hfz30_9 := blk_frozen BK335.out 9) | ((with_reducible refine gate_callee (f := 34) rfl ?_); refine goesL_ (some 27) rfl rfl Try.func34 (by kernel_rfl) rfl #[.pointer (some ⟨g, 0, none⟩)] rfl (by (try simp only [List.map_toArray, List.map_cons, List.map_nil]); first | done | rfl | (simp only [List.length_drop, List.length_take]; rfl)) ?_; (with_reducible refine (platenref20_Reader_number.calls k g s0_0 t355 t356 t357 t358 t359 w0 _ ?side1 ?side2 A9.out).mono ?_); (case side1 => repeat (first | (with_reducible first | exact HI0.out | apply IsS78.alloc | apply IsS78.drewN | apply IsS78.drew | apply IsS78.set_1 | apply IsS78.set_2 | refine IsS78.far ?_ NB0_334.out _ | refine IsS78.far ?_ NB0_335.out _) | exact HI0.out)); (case side2 => repeat (first | (with_reducible first | exact HB.out | apply below_alloc | apply pw_below_drewN | apply below_drew1 | refine below_set ?_ (IsS78.ge HI0.out) | refine below_set ?_ GE334.out | refine below_set ?_ GE335.out) | exact HB.out)); rintro e w31 ⟨rfl, hi, hb, hk⟩; refine ⟨_, rfl, ?_⟩; have n0_ := Aside0.mk (KeepBut.blk hk (g' := gb334) (o := .cells #[.int .i64 0, .int .i64 0, .string (⟨#[]⟩ : ByteArray), .int .i64 0, .int .i64 0, .int .i64 0, .int .i64 0, .int .i64 0, .int .i64 0, .int .i64 0] 50 (0, 0)) (by (with_reducible repeat (first | refine blk_drewN ?_ _ | refine blk_drew ?_ | refine blk_alloc ?_ _)); refine blk_far ?_ NB334_335.out _; (with_reducible repeat (first | refine blk_drewN ?_ _ | refine blk_drew ?_ | refine blk_alloc ?_ _)); exact BK334.out) NB334_0.out (by simp)); have n1_ := Aside0.mk (KeepBut.blk hk (g' := gb335) (o := .cells #[.int .i64 t336, .int .i64 t339, .string t342, .int .i64 t345, .int .i64 t348, .int .i64 t351, .int .i64 t354, .int .i64 0, .int .i64 0, .int .i64 0] 50 (0, 0)) (by (with_reducible repeat (first | refine blk_drewN ?_ _ | refine blk_drew ?_ | refine blk_alloc ?_ _)); refine blk_put (cs := #[.int .i64 t336, .int .i64 t339, .string t342, .int .i64 t345, .int .i64 t348, .int .i64 t351, .int .i64 0, .int .i64 0, .int .i64 0, .int .i64 0]) ?_ 6 _ rfl; (with_reducible repeat (first | refine blk_drewN ?_ _ | refine blk_drew ?_ | refine blk_alloc ?_ _)); exact BK335.out) NB335_0.out (by simp)); have n2_ := Aside0.mk (KeepBut.trans (by repeat (first | (with_reducible first | exact HK.out | apply KeepBut.set_ | apply keep_drewN | apply keep_drew | apply keep_alloc | refine keep_far ?_ GW334.out _ | refine keep_far ?_ GW335.out _) | exact HK.out)) hk (.inl rfl)); have n3_ := Aside0.mk (hb); have n4_ := Aside0.mk (hi); clear BK334; clear BK335; clear HK; clear HB; clear HI0; have BK334 := n0_; have BK335 := n1_; have HK := n2_; have HB := n3_; have HI0 := n4_; clear n0_ n1_ n2_ n3_ n4_; (try clear hb); (try clear hb2); (try clear hk); (try clear hi); have hcz32_0 : w31.cell? ⟨gb335, 0, none⟩ = some (.int .i64 t336) := (blk_cell BK335.out 0).trans rfl; have hcz32_1 : w31.cell? ⟨gb335, 1, none⟩ = some (.int .i64 t339) := (blk_cell BK335.out 1).trans rfl; have hcz32_2 : w31.cell? ⟨gb335, 2, none⟩ = some (.string t342) := (blk_cell BK335.out 2).trans rfl; have hcz32_3 : w31.cell? ⟨gb335, 3, none⟩ = some (.int .i64 t345) := (blk_cell BK335.out 3).trans rfl; have hcz32_4 : w31.cell? ⟨gb335, 4, none⟩ = some (.int .i64 t348) := (blk_cell BK335.out 4).trans rfl; have hcz32_5 : w31.cell? ⟨gb335, 5, none⟩ = some (.int .i64 t351) := (blk_cell BK335.out 5).trans rfl; have hcz32_6 : w31.cell? ⟨gb335, 6, none⟩ = some (.int .i64 t354) := (blk_cell BK335.out 6).trans rfl; have hcz32_7 : w31.cell? ⟨gb335, 7, none⟩ = some (.int .i64 0) := (blk_cell BK335.out 7).trans rfl; have hcz32_8 : w31.cell? ⟨gb335, 8, none⟩ = some (.int .i64 0) := (blk_cell BK335.out 8).trans rfl; have hcz32_9 : w31.cell? ⟨gb335, 9, none⟩ = some (.int .i64 0) := (blk_cell BK335.out 9).trans rfl; have hfz32_0 := blk_frozen BK335.out 0; have hfz32_1 := blk_frozen BK335.out 1; have hfz32_2 := blk_frozen BK335.out 2; have hfz32_3 := blk_frozen BK335.out 3; have hfz32_4 := blk_frozen BK335.out 4; have hfz32_5 := blk_frozen BK335.out 5; have hfz32_6 := blk_frozen BK335.out 6; have hfz32_7 := blk_frozen BK335.out 7; have hfz32_8 := blk_frozen BK335.out 8; have hfz32_9 := blk_frozen BK335.out 9) | ((with_reducible refine gate_callee (f := 34) rfl ?_); refine goesL_ (some 30) rfl rfl Try.func34 (by kernel_rfl) rfl #[.pointer (some ⟨g, 0, none⟩)] rfl (by (try simp only [List.map_toArray, List.map_cons, List.map_nil]); first | done | rfl | (simp only [List.length_drop, List.length_take]; rfl)) ?_; (with_reducible refine (platenref20_Reader_number.calls k g s0_0 t358 t359 t360 t361 t362 w0 _ ?side1 ?side2 A10.out).mono ?_); (case side1 => repeat (first | (with_reducible first | exact HI0.out | apply IsS78.alloc | apply IsS78.drewN | apply IsS78.drew | apply IsS78.set_1 | apply IsS78.set_2 | refine IsS78.far ?_ NB0_334.out _ | refine IsS78.far ?_ NB0_335.out _) | exact HI0.out)); (case side2 => repeat (first | (with_reducible first | exact HB.out | apply below_alloc | apply pw_below_drewN | apply below_drew1 | refine below_set ?_ (IsS78.ge HI0.out) | refine below_set ?_ GE334.out | refine below_set ?_ GE335.out) | exact HB.out)); rintro e w33 ⟨rfl, hi, hb, hk⟩; refine ⟨_, rfl, ?_⟩; have n0_ := Aside0.mk (KeepBut.blk hk (g' := gb334) (o := .cells #[.int .i64 0, .int .i64 0, .string (⟨#[]⟩ : ByteArray), .int .i64 0, .int .i64 0, .int .i64 0, .int .i64 0, .int .i64 0, .int .i64 0, .int .i64 0] 50 (0, 0)) (by (with_reducible repeat (first | refine blk_drewN ?_ _ | refine blk_drew ?_ | refine blk_alloc ?_ _)); refine blk_far ?_ NB334_335.out _; (with_reducible repeat (first | refine blk_drewN ?_ _ | refine blk_drew ?_ | refine blk_alloc ?_ _)); exact BK334.out) NB334_0.out (by simp)); have n1_ := Aside0.mk (KeepBut.blk hk (g' := gb335) (o := .cells #[.int .i64 t336, .int .i64 t339, .string t342, .int .i64 t345, .int .i64 t348, .int .i64 t351, .int .i64 t354, .int .i64 t357, .int .i64 0, .int .i64 0] 50 (0, 0)) (by (with_reducible repeat (first | refine blk_drewN ?_ _ | refine blk_drew ?_ | refine blk_alloc ?_ _)); refine blk_put (cs := #[.int .i64 t336, .int .i64 t339, .string t342, .int .i64 t345, .int .i64 t348, .int .i64 t351, .int .i64 t354, .int .i64 0, .int .i64 0, .int .i64 0]) ?_ 7 _ rfl; (with_reducible repeat (first | refine blk_drewN ?_ _ | refine blk_drew ?_ | refine blk_alloc ?_ _)); exact BK335.out) NB335_0.out (by simp)); have n2_ := Aside0.mk (KeepBut.trans (by repeat (first | (with_reducible first | exact HK.out | apply KeepBut.set_ | apply keep_drewN | apply keep_drew | apply keep_alloc | refine keep_far ?_ GW334.out _ | refine keep_far ?_ GW335.out _) | exact HK.out)) hk (.inl rfl)); have n3_ := Aside0.mk (hb); have n4_ := Aside0.mk (hi); clear BK334; clear BK335; clear HK; clear HB; clear HI0; have BK334 := n0_; have BK335 := n1_; have HK := n2_; have HB := n3_; have HI0 := n4_; clear n0_ n1_ n2_ n3_ n4_; (try clear hb); (try clear hb2); (try clear hk); (try clear hi); have hcz34_0 : w33.cell? ⟨gb335, 0, none⟩ = some (.int .i64 t336) := (blk_cell BK335.out 0).trans rfl; have hcz34_1 : w33.cell? ⟨gb335, 1, none⟩ = some (.int .i64 t339) := (blk_cell BK335.out 1).trans rfl; have hcz34_2 : w33.cell? ⟨gb335, 2, none⟩ = some (.string t342) := (blk_cell BK335.out 2).trans rfl; have hcz34_3 : w33.cell? ⟨gb335, 3, none⟩ = some (.int .i64 t345) := (blk_cell BK335.out 3).trans rfl; have hcz34_4 : w33.cell? ⟨gb335, 4, none⟩ = some (.int .i64 t348) := (blk_cell BK335.out 4).trans rfl; have hcz34_5 : w33.cell? ⟨gb335, 5, none⟩ = some (.int .i64 t351) := (blk_cell BK335.out 5).trans rfl; have hcz34_6 : w33.cell? ⟨gb335, 6, none⟩ = some (.int .i64 t354) := (blk_cell BK335.out 6).trans rfl; have hcz34_7 : w33.cell? ⟨gb335, 7, none⟩ = some (.int .i64 t357) := (blk_cell BK335.out 7).trans rfl; have hcz34_8 : w33.cell? ⟨gb335, 8, none⟩ = some (.int .i64 0) := (blk_cell BK335.out 8).trans rfl; have hcz34_9 : w33.cell? ⟨gb335, 9, none⟩ = some (.int .i64 0) := (blk_cell BK335.out 9).trans rfl; have hfz34_0 := blk_frozen BK335.out 0; have hfz34_1 := blk_frozen BK335.out 1; have hfz34_2 := blk_frozen BK335.out 2; have hfz34_3 := blk_frozen BK335.out 3; have hfz34_4 := blk_frozen BK335.out 4; have hfz34_5 := blk_frozen BK335.out 5; have hfz34_6 := blk_frozen BK335.out 6; have hfz34_7 := blk_frozen BK335.out 7; have hfz34_8 := blk_frozen BK335.out 8; have hfz34_9 := blk_frozen BK335.out 9) | ((with_reducible refine gate_callee (f := 34) rfl ?_); refine goesL_ (some 33) rfl rfl Try.func34 (by kernel_rfl) rfl #[.pointer (some ⟨g, 0, none⟩)] rfl (by (try simp only [List.map_toArray, List.map_cons, List.map_nil]); first | done | rfl | (simp only [List.length_drop, List.length_take]; rfl)) ?_; (with_reducible refine (platenref20_Reader_number.calls k g s0_0 t361 t362 t363 t364 t365 w0 _ ?side1 ?side2 A11.out).mono ?_); (case side1 => repeat (first | (with_reducible first | exact HI0.out | apply IsS78.alloc | apply IsS78.drewN | apply IsS78.drew | apply IsS78.set_1 | apply IsS78.set_2 | refine IsS78.far ?_ NB0_334.out _ | refine IsS78.far ?_ NB0_335.out _) | exact HI0.out)); (case side2 => repeat (first | (with_reducible first | exact HB.out | apply below_alloc | apply pw_below_drewN | apply below_drew1 | refine below_set ?_ (IsS78.ge HI0.out) | refine below_set ?_ GE334.out | refine below_set ?_ GE335.out) | exact HB.out)); rintro e w35 ⟨rfl, hi, hb, hk⟩; refine ⟨_, rfl, ?_⟩; have n0_ := Aside0.mk (KeepBut.blk hk (g' := gb334) (o := .cells #[.int .i64 0, .int .i64 0, .string (⟨#[]⟩ : ByteArray), .int .i64 0, .int .i64 0, .int .i64 0, .int .i64 0, .int .i64 0, .int .i64 0, .int .i64 0] 50 (0, 0)) (by (with_reducible repeat (first | refine blk_drewN ?_ _ | refine blk_drew ?_ | refine blk_alloc ?_ _)); refine blk_far ?_ NB334_335.out _; (with_reducible repeat (first | refine blk_drewN ?_ _ | refine blk_drew ?_ | refine blk_alloc ?_ _)); exact BK334.out) NB334_0.out (by simp)); have n1_ := Aside0.mk (KeepBut.blk hk (g' := gb335) (o := .cells #[.int .i64 t336, .int .i64 t339, .string t342, .int .i64 t345, .int .i64 t348, .int .i64 t351, .int .i64 t354, .int .i64 t357, .int .i64 t360, .int .i64 0] 50 (0, 0)) (by (with_reducible repeat (first | refine blk_drewN ?_ _ | refine blk_drew ?_ | refine blk_alloc ?_ _)); refine blk_put (cs := #[.int .i64 t336, .int .i64 t339, .string t342, .int .i64 t345, .int .i64 t348, .int .i64 t351, .int .i64 t354, .int .i64 t357, .int .i64 0, .int .i64 0]) ?_ 8 _ rfl; (with_reducible repeat (first | refine blk_drewN ?_ _ | refine blk_drew ?_ | refine blk_alloc ?_ _)); exact BK335.out) NB335_0.out (by simp)); have n2_ := Aside0.mk (KeepBut.trans (by repeat (first | (with_reducible first | exact HK.out | apply KeepBut.set_ | apply keep_drewN | apply keep_drew | apply keep_alloc | refine keep_far ?_ GW334.out _ | refine keep_far ?_ GW335.out _) | exact HK.out)) hk (.inl rfl)); have n3_ := Aside0.mk (hb); have n4_ := Aside0.mk (hi); clear BK334; clear BK335; clear HK; clear HB; clear HI0; have BK334 := n0_; have BK335 := n1_; have HK := n2_; have HB := n3_; have HI0 := n4_; clear n0_ n1_ n2_ n3_ n4_; (try clear hb); (try clear hb2); (try clear hk); (try clear hi); have hcz36_0 : w35.cell? ⟨gb335, 0, none⟩ = some (.int .i64 t336) := (blk_cell BK335.out 0).trans rfl; have hcz36_1 : w35.cell? ⟨gb335, 1, none⟩ = some (.int .i64 t339) := (blk_cell BK335.out 1).trans rfl; have hcz36_2 : w35.cell? ⟨gb335, 2, none⟩ = some (.string t342) := (blk_cell BK335.out 2).trans rfl; have hcz36_3 : w35.cell? ⟨gb335, 3, none⟩ = some (.int .i64 t345) := (blk_cell BK335.out 3).trans rfl; have hcz36_4 : w35.cell? ⟨gb335, 4, none⟩ = some (.int .i64 t348) := (blk_cell BK335.out 4).trans rfl; have hcz36_5 : w35.cell? ⟨gb335, 5, none⟩ = some (.int .i64 t351) := (blk_cell BK335.out 5).trans rfl; have hcz36_6 : w35.cell? ⟨gb335, 6, none⟩ = some (.int .i64 t354) := (blk_cell BK335.out 6).trans rfl; have hcz36_7 : w35.cell? ⟨gb335, 7, none⟩ = some (.int .i64 t357) := (blk_cell BK335.out 7).trans rfl; have hcz36_8 : w35.cell? ⟨gb335, 8, none⟩ = some (.int .i64 t360) := (blk_cell BK335.out 8).trans rfl; have hcz36_9 : w35.cell? ⟨gb335, 9, none⟩ = some (.int .i64 0) := (blk_cell BK335.out 9).trans rfl; have hfz36_0 := blk_frozen BK335.out 0; have hfz36_1 := blk_frozen BK335.out 1; have hfz36_2 := blk_frozen BK335.out 2; have hfz36_3 := blk_frozen BK335.out 3; have hfz36_4 := blk_frozen BK335.out 4; have hfz36_5 := blk_frozen BK335.out 5; have hfz36_6 := blk_frozen BK335.out 6; have hfz36_7 := blk_frozen BK335.out 7; have hfz36_8 := blk_frozen BK335.out 8; have hfz36_9 := blk_frozen BK335.out 9; have hnb37 := NB334_0.out; have hnc37 := NB0_334.out; have hcz38_0 : w35.cell? ⟨gb334, 0, none⟩ = some (.int .i64 0) := (blk_cell BK334.out 0).trans rfl; have hcz38_1 : w35.cell? ⟨gb334, 1, none⟩ = some (.int .i64 0) := (blk_cell BK334.out 1).trans rfl; have hcz38_2 : w35.cell? ⟨gb334, 2, none⟩ = some (.string (⟨#[]⟩ : ByteArray)) := (blk_cell BK334.out 2).trans rfl; have hcz38_3 : w35.cell? ⟨gb334, 3, none⟩ = some (.int .i64 0) := (blk_cell BK334.out 3).trans rfl; have hcz38_4 : w35.cell? ⟨gb334, 4, none⟩ = some (.int .i64 0) := (blk_cell BK334.out 4).trans rfl; have hcz38_5 : w35.cell? ⟨gb334, 5, none⟩ = some (.int .i64 0) := (blk_cell BK334.out 5).trans rfl; have hcz38_6 : w35.cell? ⟨gb334, 6, none⟩ = some (.int .i64 0) := (blk_cell BK334.out 6).trans rfl; have hcz38_7 : w35.cell? ⟨gb334, 7, none⟩ = some (.int .i64 0) := (blk_cell BK334.out 7).trans rfl; have hcz38_8 : w35.cell? ⟨gb334, 8, none⟩ = some (.int .i64 0) := (blk_cell BK334.out 8).trans rfl; have hcz38_9 : w35.cell? ⟨gb334, 9, none⟩ = some (.int .i64 0) := (blk_cell BK334.out 9).trans rfl; have hfz38_0 := blk_frozen BK334.out 0; have hfz38_1 := blk_frozen BK334.out 1; have hfz38_2 := blk_frozen BK334.out 2; have hfz38_3 := blk_frozen BK334.out 3; have hfz38_4 := blk_frozen BK334.out 4; have hfz38_5 := blk_frozen BK334.out 5; have hfz38_6 := blk_frozen BK334.out 6; have hfz38_7 := blk_frozen BK334.out 7; have hfz38_8 := blk_frozen BK334.out 8; have hfz38_9 := blk_frozen BK334.out 9))
  refine bodyPost_ret (results_cell_row rfl _ _ gb334 50 #[.int .i64 t336, .int .i64 t339, .string t342, .int .i64 t345, .int .i64 t348, .int .i64 t351, .int .i64 t354, .int .i64 t357, .int .i64 t360, .int .i64 t363] (0, 0) _ rfl (by (with_reducible repeat (first | refine blk_drewN ?_ _ | refine blk_drew ?_ | refine blk_alloc ?_ _)); refine blk_put (cs := #[.int .i64 t336, .int .i64 t339, .string t342, .int .i64 t345, .int .i64 t348, .int .i64 t351, .int .i64 t354, .int .i64 t357, .int .i64 t360, .int .i64 0]) ?_ 9 _ rfl; (with_reducible repeat (first | refine blk_drewN ?_ _ | refine blk_drew ?_ | refine blk_alloc ?_ _)); refine blk_put (cs := #[.int .i64 t336, .int .i64 t339, .string t342, .int .i64 t345, .int .i64 t348, .int .i64 t351, .int .i64 t354, .int .i64 t357, .int .i64 0, .int .i64 0]) ?_ 8 _ rfl; (with_reducible repeat (first | refine blk_drewN ?_ _ | refine blk_drew ?_ | refine blk_alloc ?_ _)); refine blk_put (cs := #[.int .i64 t336, .int .i64 t339, .string t342, .int .i64 t345, .int .i64 t348, .int .i64 t351, .int .i64 t354, .int .i64 0, .int .i64 0, .int .i64 0]) ?_ 7 _ rfl; (with_reducible repeat (first | refine blk_drewN ?_ _ | refine blk_drew ?_ | refine blk_alloc ?_ _)); refine blk_put (cs := #[.int .i64 t336, .int .i64 t339, .string t342, .int .i64 t345, .int .i64 t348, .int .i64 t351, .int .i64 0, .int .i64 0, .int .i64 0, .int .i64 0]) ?_ 6 _ rfl; (with_reducible repeat (first | refine blk_drewN ?_ _ | refine blk_drew ?_ | refine blk_alloc ?_ _)); refine blk_put (cs := #[.int .i64 t336, .int .i64 t339, .string t342, .int .i64 t345, .int .i64 t348, .int .i64 0, .int .i64 0, .int .i64 0, .int .i64 0, .int .i64 0]) ?_ 5 _ rfl; (with_reducible repeat (first | refine blk_drewN ?_ _ | refine blk_drew ?_ | refine blk_alloc ?_ _)); refine blk_put (cs := #[.int .i64 t336, .int .i64 t339, .string t342, .int .i64 t345, .int .i64 0, .int .i64 0, .int .i64 0, .int .i64 0, .int .i64 0, .int .i64 0]) ?_ 4 _ rfl; (with_reducible repeat (first | refine blk_drewN ?_ _ | refine blk_drew ?_ | refine blk_alloc ?_ _)); refine blk_put (cs := #[.int .i64 t336, .int .i64 t339, .string t342, .int .i64 0, .int .i64 0, .int .i64 0, .int .i64 0, .int .i64 0, .int .i64 0, .int .i64 0]) ?_ 3 _ rfl; (with_reducible repeat (first | refine blk_drewN ?_ _ | refine blk_drew ?_ | refine blk_alloc ?_ _)); refine blk_put (cs := #[.int .i64 t336, .int .i64 t339, .string (⟨#[]⟩ : ByteArray), .int .i64 0, .int .i64 0, .int .i64 0, .int .i64 0, .int .i64 0, .int .i64 0, .int .i64 0]) ?_ 2 _ rfl; (with_reducible repeat (first | refine blk_drewN ?_ _ | refine blk_drew ?_ | refine blk_alloc ?_ _)); refine blk_put (cs := #[.int .i64 t336, .int .i64 0, .string (⟨#[]⟩ : ByteArray), .int .i64 0, .int .i64 0, .int .i64 0, .int .i64 0, .int .i64 0, .int .i64 0, .int .i64 0]) ?_ 1 _ rfl; (with_reducible repeat (first | refine blk_drewN ?_ _ | refine blk_drew ?_ | refine blk_alloc ?_ _)); refine blk_put (cs := #[.int .i64 0, .int .i64 0, .string (⟨#[]⟩ : ByteArray), .int .i64 0, .int .i64 0, .int .i64 0, .int .i64 0, .int .i64 0, .int .i64 0, .int .i64 0]) ?_ 0 _ rfl; (with_reducible repeat (first | refine blk_drewN ?_ _ | refine blk_drew ?_ | refine blk_alloc ?_ _)); refine blk_far ?_ NB334_335.out _; (with_reducible repeat (first | refine blk_drewN ?_ _ | refine blk_drew ?_ | refine blk_alloc ?_ _)); exact BK334.out) Try.underlying50 rfl (by kernel_rfl)) rfl ?_
  exact ⟨by first | rfl | (simp [errW_none, errW_some] <;> rfl) | (simp [*, errW_none, errW_some] <;> rfl), by repeat (first | (with_reducible first | exact HI0.out | apply IsS78.alloc | apply IsS78.drewN | apply IsS78.drew | apply IsS78.set_1 | apply IsS78.set_2 | refine IsS78.far ?_ NB0_334.out _ | refine IsS78.far ?_ NB0_335.out _) | exact HI0.out), by repeat (first | (with_reducible first | exact HB.out | apply below_alloc | apply pw_below_drewN | apply below_drew1 | refine below_set ?_ (IsS78.ge HI0.out) | refine below_set ?_ GE334.out | refine below_set ?_ GE335.out) | exact HB.out), by repeat (first | (with_reducible first | exact HK.out | apply KeepBut.set_ | apply keep_drewN | apply keep_drew | apply keep_alloc | refine keep_far ?_ GW334.out _ | refine keep_far ?_ GW335.out _) | exact HK.out)⟩
attribute [local go_sem] max2_int min2_int max_two min_two max_three min_three max_four min_four   -- for this text's walks alone
def platenref20_Reader_truth.f (s0_0 : List Int) (s0_1 : Int) (s0_2 : Bool) : Option (Bool × Int × Bool) := if s0_1 ≥ (s0_0.length : Int) then (some (false, s0_1, true)) else (if 0 ≤ s0_1 then (if s0_1 < (s0_0.length : Int) then (if (rd s0_0 s0_1) > 1 then (some (false, s0_1, true)) else (if 0 ≤ (wrap64 ((wrap64 (s0_1 + 1)) - 1)) then (if (wrap64 ((wrap64 (s0_1 + 1)) - 1)) < (s0_0.length : Int) then (some (((rd s0_0 (wrap64 ((wrap64 (s0_1 + 1)) - 1))) == 1), wrap64 (s0_1 + 1), s0_2)) else (none)) else (none))) else (none)) else (none))
set_option maxHeartbeats 8000000 in
set_option maxRecDepth 100000 in
theorem platenref20_Reader_truth.calls (g : Nat) (s0_0 : List Int) (s0_1 : Int) (s0_2 : Bool) (r1 : Bool) (r2 : Int) (r3 : Bool) (w0 w : World) (hI : IsS78 w0 w g s0_0 s0_1 s0_2) (hB : Below w0.heap.size w0 w) (h : platenref20_Reader_truth.f s0_0 s0_1 s0_2 = some (r1, r2, r3)) :
    Calls Try.prog 44 #[.pointer (some ⟨g, 0, none⟩)] w fun e w' => e = .returned (.bool r1) ∧ IsS78 w0 w' g s0_0 r2 r3 ∧ Below w0.heap.size w0 w' ∧ KeepBut w w' g none := by
  have HI0 := Aside0.mk hI
  have HK := Aside0.mk (KeepBut.refl w g none)
  have HL := Aside0.mk hB.size
  clear hI
  have HW0 := Aside0.mk hB.size
  have HB := Aside0.mk hB
  clear hB
  have H : (if s0_1 ≥ (s0_0.length : Int) then (some (false, s0_1, true)) else (if 0 ≤ s0_1 then (if s0_1 < (s0_0.length : Int) then (if (rd s0_0 s0_1) > 1 then (some (false, s0_1, true)) else (if 0 ≤ (wrap64 ((wrap64 (s0_1 + 1)) - 1)) then (if (wrap64 ((wrap64 (s0_1 + 1)) - 1)) < (s0_0.length : Int) then (some (((rd s0_0 (wrap64 ((wrap64 (s0_1 + 1)) - 1))) == 1), wrap64 (s0_1 + 1), s0_2)) else (none)) else (none))) else (none)) else (none))) = some (r1, r2, r3) := h
  clear h
  by_cases c2 : s0_1 ≥ (s0_0.length : Int)
  · rw [if_pos c2] at H
    have c2b0 : decide ((s0_0.length : Int) ≤ s0_1) = true := decide_eq_true c2
    clear c2
    simp only [Option.some.injEq, Prod.mk.injEq] at H
    obtain ⟨rfl, rfl, rfl⟩ := H
    obtain ⟨ASz3_0, cSz3_0, HGz3, hgz3, HSz3_0⟩ := HI0.out
    have hcz3_0 := cellS78_0 HGz3
    have hcz3_1 := cellS78_1 HGz3
    have hcz3_2 := cellS78_2 HGz3
    have hfz3_1 := blk_frozen HGz3 1
    have hfz3_2 := blk_frozen HGz3 2
    clear HGz3 hgz3
    go_enter Try.func44, Try.ntmps44
    go_wp2
    repeat (go_quiet (fail); try go_wp2)
    go_ret
    exact ⟨by first | rfl | (simp [errW_none, errW_some] <;> rfl) | (simp [*, errW_none, errW_some] <;> rfl), by repeat (first | (with_reducible first | exact HI0.out | apply IsS78.alloc | apply IsS78.drewN | apply IsS78.drew | apply IsS78.set_1 | apply IsS78.set_2) | exact HI0.out), by repeat (first | (with_reducible first | exact HB.out | apply below_alloc | apply pw_below_drewN | apply below_drew1 | refine below_set ?_ (IsS78.ge HI0.out)) | exact HB.out), by repeat (first | (with_reducible first | exact HK.out | apply KeepBut.set_ | apply keep_drewN | apply keep_drew | apply keep_alloc) | exact HK.out)⟩
  · rw [if_neg c2] at H
    have c2b0 : decide ((s0_0.length : Int) ≤ s0_1) = false := decide_eq_false c2
    clear c2
    by_cases c4 : 0 ≤ s0_1
    · rw [if_pos c4] at H
      have c4b0 : decide (0 ≤ s0_1) = true := decide_eq_true c4
      clear c4
      by_cases c5 : s0_1 < (s0_0.length : Int)
      · rw [if_pos c5] at H
        have c5b0 : decide (s0_1 < (s0_0.length : Int)) = true := decide_eq_true c5
        clear c5
        by_cases c6 : (rd s0_0 s0_1) > 1
        · rw [if_pos c6] at H
          have c6b0 : decide (1 < (rd s0_0 s0_1)) = true := decide_eq_true c6
          clear c6
          simp only [Option.some.injEq, Prod.mk.injEq] at H
          obtain ⟨rfl, rfl, rfl⟩ := H
          obtain ⟨ASz7_0, cSz7_0, HGz7, hgz7, HSz7_0⟩ := HI0.out
          have hcz7_0 := cellS78_0 HGz7
          have hcz7_1 := cellS78_1 HGz7
          have hcz7_2 := cellS78_2 HGz7
          have hfz7_1 := blk_frozen HGz7 1
          have hfz7_2 := blk_frozen HGz7 2
          clear HGz7 hgz7
          have p332 : 0 ≤ (s0_1 : Int) := of_decide_eq_true (by first | (with_reducible assumption) | assumption)
          have q332 : s0_1 < (s0_0.length : Int) := of_decide_eq_true (by first | (with_reducible assumption) | assumption)
          obtain ⟨ad332, e332, hx332_0⟩ := Kd.at_int HSz7_0.1 s0_1 p332 q332
          cases e332
          replace hx332_0 := pw_cell_below HB.out hx332_0
          replace p332 := eq_true p332
          replace q332 := eq_true q332
          go_enter Try.func44, Try.ntmps44
          go_wp2
          repeat (go_quiet (fail); try go_wp2)
          go_ret
          exact ⟨by first | rfl | (simp [errW_none, errW_some] <;> rfl) | (simp [*, errW_none, errW_some] <;> rfl), by repeat (first | (with_reducible first | exact HI0.out | apply IsS78.alloc | apply IsS78.drewN | apply IsS78.drew | apply IsS78.set_1 | apply IsS78.set_2) | exact HI0.out), by repeat (first | (with_reducible first | exact HB.out | apply below_alloc | apply pw_below_drewN | apply below_drew1 | refine below_set ?_ (IsS78.ge HI0.out)) | exact HB.out), by repeat (first | (with_reducible first | exact HK.out | apply KeepBut.set_ | apply keep_drewN | apply keep_drew | apply keep_alloc) | exact HK.out)⟩
        · rw [if_neg c6] at H
          have c6b0 : decide (1 < (rd s0_0 s0_1)) = false := decide_eq_false c6
          clear c6
          obtain ⟨ji8, hji8⟩ : ∃ j_ : Int, (wrap64 ((wrap64 (s0_1 + 1)) - 1)) = j_ := ⟨_, rfl⟩
          replace H : (if 0 ≤ (ji8) then (if (ji8) < (s0_0.length : Int) then (some (((rd s0_0 (ji8)) == 1), wrap64 (s0_1 + 1), s0_2)) else (none)) else (none)) = some (r1, r2, r3) := by first | (rw [hji8] at H; exact H) | (simp only [hji8] at H ⊢; exact H)
          have hji8w : (IntKind.i64.wrap ((wrap64 (s0_1 + 1)) - 1)) = ji8 := (i64_w _).trans hji8
          by_cases c9 : 0 ≤ (ji8)
          · rw [if_pos c9] at H
            have c9b0 : decide (0 ≤ (ji8)) = true := decide_eq_true c9
            clear c9
            by_cases c10 : (ji8) < (s0_0.length : Int)
            · rw [if_pos c10] at H
              have c10b0 : decide ((ji8) < (s0_0.length : Int)) = true := decide_eq_true c10
              clear c10
              simp only [Option.some.injEq, Prod.mk.injEq] at H
              obtain ⟨rfl, rfl, rfl⟩ := H
              obtain ⟨ASz11_0, cSz11_0, HGz11, hgz11, HSz11_0⟩ := HI0.out
              have hcz11_0 := cellS78_0 HGz11
              have hcz11_1 := cellS78_1 HGz11
              have hcz11_2 := cellS78_2 HGz11
              have hfz11_1 := blk_frozen HGz11 1
              have hfz11_2 := blk_frozen HGz11 2
              clear HGz11 hgz11
              have p332 : 0 ≤ (s0_1 : Int) := of_decide_eq_true (by first | (with_reducible assumption) | assumption)
              have q332 : s0_1 < (s0_0.length : Int) := of_decide_eq_true (by first | (with_reducible assumption) | assumption)
              obtain ⟨ad332, e332, hx332_0⟩ := Kd.at_int HSz11_0.1 s0_1 p332 q332
              cases e332
              replace hx332_0 := pw_cell_below HB.out hx332_0
              replace p332 := eq_true p332
              replace q332 := eq_true q332
              have p333 : 0 ≤ ((ji8) : Int) := of_decide_eq_true (by first | (with_reducible assumption) | assumption)
              have q333 : (ji8) < (s0_0.length : Int) := of_decide_eq_true (by first | (with_reducible assumption) | assumption)
              obtain ⟨ad333, e333, hx333_0⟩ := Kd.at_int HSz11_0.1 (ji8) p333 q333
              obtain rfl : ad332 = ad333 := (by injection e333)
              have hn333_0 : ad332.block ≠ g := Nat.ne_of_lt (Nat.lt_of_lt_of_le (by have := World.block_lt_of_cell? _ _ hx333_0; first | rwa [add_block] at this | exact this) (IsS78.ge HI0.out))
              replace hx333_0 := pw_cell_below HB.out hx333_0
              replace hx333_0 := (cell_far (p := ⟨g, 1, none⟩) (by first | (rw [add_block]; exact hn333_0) | (show (Addr.add _ _).block ≠ _; rw [add_block]; exact hn333_0) | exact hn333_0) (.int .i64 (wrap64 (s0_1 + 1)))).trans hx333_0
              (try have hy333_0 := fun (n_ : Nat) => (show (((w.drewN n_).setCell ⟨g, 1, none⟩ (.int .i64 (wrap64 (s0_1 + 1))))).cell? _ = some _ from hx333_0))
              clear hn333_0
              replace p333 := eq_true p333
              replace q333 := eq_true q333
              go_enter Try.func44, Try.ntmps44
              go_wp2
              repeat (go_quiet (fail); try go_wp2)
              go_ret
              exact ⟨by first | rfl | (simp [errW_none, errW_some] <;> rfl) | (simp only [← hji8]; first | rfl | (simp [errW_none, errW_some] <;> rfl)) | (simp [*, errW_none, errW_some] <;> rfl), by repeat (first | (with_reducible first | exact HI0.out | apply IsS78.alloc | apply IsS78.drewN | apply IsS78.drew | apply IsS78.set_1 | apply IsS78.set_2) | exact HI0.out), by repeat (first | (with_reducible first | exact HB.out | apply below_alloc | apply pw_below_drewN | apply below_drew1 | refine below_set ?_ (IsS78.ge HI0.out)) | exact HB.out), by repeat (first | (with_reducible first | exact HK.out | apply KeepBut.set_ | apply keep_drewN | apply keep_drew | apply keep_alloc) | exact HK.out)⟩
            · rw [if_neg c10] at H
              exact absurd H (by simp)
          · rw [if_neg c9] at H
            exact absurd H (by simp)
      · rw [if_neg c5] at H
        exact absurd H (by simp)
    · rw [if_neg c4] at H
      exact absurd H (by simp)
end Go.Proofs.Ytihiapjfdgoomaa.P
namespace Go.Proofs.Ytihiapjfdgoomaa.A
open Go.RowKit Go.Proofs.YtihiapjfdgoomaaW.PrintWords Go.Proofs.YtihiapjfdgoomaaW.PrintLast Go.Proofs.YtihiapjfdgoomaaW.PrintMore
open Go.Proofs.Ytihiapjfdgoomaa.P
set_option linter.unusedVariables false
set_option linter.unusedSimpArgs false
abbrev Sq := Nat × Bool
def Fq (w0 w W : World) (g : Nat) (B : List Int) (s : Sq) (L : List (Nat × Nat × Array Value)) : Prop :=
  IsS78 w0 W g B (s.1 : Int) s.2 ∧ Below w0.heap.size w0 W ∧ KeepBut w W g none ∧ ∀ x ∈ L, W.heap[x.1]? = some (.cells x.2.2 x.2.1 (0, 0)) ∧ x.1 ≠ g ∧ w.heap.size ≤ x.1 ∧ w0.heap.size ≤ x.1
section
variable {w0 w W W1 : World} {g : Nat} {B : List Int} {s s1 : Sq} {L : List (Nat × Nat × Array Value)}
theorem Fq.rd (h : Fq w0 w W g B s L) : IsS78 w0 W g B (s.1 : Int) s.2 := h.1
theorem Fq.bel (h : Fq w0 w W g B s L) : Below w0.heap.size w0 W := h.2.1
theorem Fq.keep (h : Fq w0 w W g B s L) : KeepBut w W g none := h.2.2.1
theorem Fq.start (h : IsS78 w0 w g B (s.1 : Int) s.2) (hB : Below w0.heap.size w0 w) : Fq w0 w w g B s [] := ⟨h, hB, KeepBut.refl _ _ _, fun x hx => by simp at hx⟩
theorem Fq.alloc (h : Fq w0 w W g B s L) (cs : Array Value) (t : Nat) : Fq w0 w (W.alloc (.cells cs t)) g B s ((W.heap.size, t, cs) :: L) := by
  obtain ⟨hI, hB, hK, hL⟩ := h
  refine ⟨hI.alloc _, below_alloc hB _, keep_alloc hK _, fun x hx => ?_⟩
  rcases List.mem_cons.1 hx with rfl | hx
  · exact ⟨heap_alloc_new W _, by have := hI.lt; simp; omega, hK.1, hB.size⟩
  · obtain ⟨h1, h2, h3, h4⟩ := hL x hx
    exact ⟨(Below.heap_alloc W _ _ (blk_lt h1)).trans h1, h2, h3, h4⟩
theorem Fq.call (h : Fq w0 w W g B s L) (hI : IsS78 w0 W1 g B (s1.1 : Int) s1.2) (hB : Below w0.heap.size w0 W1) (hK : KeepBut W W1 g none) : Fq w0 w W1 g B s1 L :=
  ⟨hI, hB, KeepBut.then_ h.2.2.1 hK, fun x hx => by
    obtain ⟨h1, h2, h3, h4⟩ := h.2.2.2 x hx
    exact ⟨hK.blk h1 h2 (by simp), h2, h3, h4⟩⟩
theorem Fq.set (b t : Nat) (cs : Array Value) (h : Fq w0 w W g B s ((b, t, cs) :: L)) (hL : ∀ x ∈ L, x.1 ≠ b) (j : Nat) (u : Value) : Fq w0 w (W.setCell ⟨b, j, none⟩ u) g B s ((b, t, cs.setIfInBounds j u) :: L) := by
  obtain ⟨⟨A, c, hb, hg, hT⟩, hB, hK, hL'⟩ := h
  obtain ⟨h1, h2, h3, h4⟩ := hL' _ (List.mem_cons_self)
  refine ⟨⟨A, c, blk_far hb (p := ⟨b, j, none⟩) (fun e => h2 e.symm) u, hg, hT⟩, ?_, keep_far hK (p := ⟨b, j, none⟩) h3 u, fun x hx => ?_⟩
  · exact hB.setCell (p := ⟨b, j, none⟩) h4 u
  · rcases List.mem_cons.1 hx with rfl | hx
    · exact ⟨blk_set h1 j u, h2, h3, h4⟩
    · obtain ⟨k1, k2, k3, k4⟩ := hL' x (List.mem_cons_of_mem _ hx)
      exact ⟨blk_far k1 (p := ⟨b, j, none⟩) (hL x hx) u, k2, k3, k4⟩
theorem Fq.sub {L' : List (Nat × Nat × Array Value)} (h : Fq w0 w W g B s L) (hs : ∀ x ∈ L', x ∈ L) : Fq w0 w W g B s L' := ⟨h.1, h.2.1, h.2.2.1, fun x hx => h.2.2.2 x (hs x hx)⟩
theorem Fq.blk (h : Fq w0 w W g B s L) {b t : Nat} {cs : Array Value} (hm : (b, t, cs) ∈ L) : W.heap[b]? = some (.cells cs t (0, 0)) := (h.2.2.2 _ hm).1
theorem Fq.ge (h : Fq w0 w W g B s L) {b t : Nat} {cs : Array Value} (hm : (b, t, cs) ∈ L) : w.heap.size ≤ b := (h.2.2.2 _ hm).2.2.1
theorem Fq.lt (h : Fq w0 w W g B s L) {b t : Nat} {cs : Array Value} (hm : (b, t, cs) ∈ L) : b < W.heap.size := blk_lt (h.blk hm)
end
section
variable {w0 w W W1 : World} {g : Nat} {B : List Int} {s s1 : Sq} {L : List (Nat × Nat × Array Value)}
theorem Fq.drew (h : Fq w0 w W g B s L) : Fq w0 w W.drew g B s L := ⟨h.1, below_drew h.2.1, h.2.2.1, h.2.2.2⟩
theorem Fq.grown {α : Type} {d : Kd α} {e base : Nat} {ok : Nat → Prop} {v : Value} {xs : List α} (h : Fq w0 w W g B s L) (hR : d.R e W base ok v xs) (hbase : w.heap.size ≤ base) (hg : W.grownBy W1 v.ownBlock) (hB : Below w0.heap.size w0 W1)
    (h70 : e ≠ 78) (hT : ∀ x ∈ L, e ≠ x.2.1) : Fq w0 w W1 g B s L := by
  obtain ⟨⟨A, c, hb, hgg, hT0⟩, _, hK, hL⟩ := h
  refine ⟨⟨A, c, blk_grown hb hg (Kd.R_ne hR hb h70), hgg, hT0⟩, hB, KeepBut.trans hK (KeepBut.of_grown hg g) ?_, fun x hx => ?_⟩
  · rcases Kd.R_base2 hR with h1 | ⟨k, h1, h2⟩
    · exact .inl h1
    · exact .inr ⟨k, h1, Nat.le_trans hbase h2⟩
  · obtain ⟨h1, h2, h3, h4⟩ := hL x hx
    exact ⟨blk_grown h1 hg (Kd.R_ne hR h1 (hT x hx)), h2, h3, h4⟩
end
def qn (B : List Int) (s : Sq) : Int := if s.1 + 8 ≤ B.length then fold8 ((B.drop s.1).take 8) else 0
def qs (B : List Int) (s : Sq) : Sq := if s.1 + 8 ≤ B.length then (s.1 + 8, s.2) else (B.length, true)
def qv (B : List Int) (s : Sq) : Int := wrap64 (qn B s)
def qt (B : List Int) (s : Sq) : ByteArray := if ((B.length - (qs B s).1 : Nat) : Int) < qn B s then ⟨#[]⟩ else strOfNums ((B.drop (qs B s).1).take (qn B s).toNat)
def qts (B : List Int) (s : Sq) : Sq := if ((B.length - (qs B s).1 : Nat) : Int) < qn B s then ((qs B s).1, true) else ((qs B s).1 + (qn B s).toNat, (qs B s).2)
def qb (B : List Int) (s : Sq) : Bool := if B.length ≤ s.1 ∨ 1 < rd B s.1 then false else rd B s.1 == 1
def qbs (B : List Int) (s : Sq) : Sq := if B.length ≤ s.1 ∨ 1 < rd B s.1 then (s.1, true) else (s.1 + 1, s.2)
def qc (least : Int) (B : List Int) (s : Sq) : Int := if ((B.length - (qs B s).1 : Nat) : Int) / least < qn B s then 0 else wrap64 (qn B s)
def qcs (least : Int) (B : List Int) (s : Sq) : Sq := if ((B.length - (qs B s).1 : Nat) : Int) / least < qn B s then ((qs B s).1, true) else qs B s
theorem ref_num_l0 (B : List Int) (bad : Bool) (hl : B.length ≤ 9223372036854775807) : ∀ (d : Nat) (i : Int) (n : Int) (at_ : Nat), 0 ≤ i → i + d = 8 → at_ ≤ B.length →
    ∀ k, d < k → platenref20_Reader_Number.l0 k n i B (at_ : Int) bad = some (if at_ + d ≤ B.length then (((B.drop at_).take d).foldl step8 n, ((at_ + d : Nat) : Int), bad) else (0, (B.length : Int), true)) := by
  intro d
  induction d with
  | zero =>
    intro i n at_ h0 hi ha k hk
    obtain ⟨k, rfl⟩ : ∃ m, k = m + 1 := ⟨k - 1, by omega⟩
    rw [platenref20_Reader_Number.l0, if_neg (by omega), if_pos (by omega)]
    simp
  | succ d ih =>
    intro i n at_ h0 hi ha k hk
    obtain ⟨k, rfl⟩ : ∃ m, k = m + 1 := ⟨k - 1, by omega⟩
    rw [platenref20_Reader_Number.l0, if_pos (by omega)]
    by_cases hge : (at_ : Int) ≥ (B.length : Int)
    · rw [if_pos hge, if_neg (by omega)]
      have : at_ = B.length := by omega
      rw [this]
    · have hlt : at_ < B.length := by omega
      have w1 : wrap64 (i + 1) = i + 1 := by unfold wrap64; omega
      have w2 : wrap64 ((at_ : Int) + 1) = ((at_ + 1 : Nat) : Int) := by unfold wrap64; omega
      rw [if_neg hge, if_pos (by omega), if_pos (by omega), w1, w2, ih (i + 1) _ (at_ + 1) (by omega) (by omega) (by omega) k (by omega)]
      have e : (B.drop at_).take (d + 1) = rd B (at_ : Int) :: (B.drop (at_ + 1)).take d := by
        rw [List.drop_eq_getElem_cons hlt, List.take_succ_cons]
        simp [rd, List.getD_eq_getElem?_getD, List.getElem?_eq_getElem hlt]
      rw [e]
      by_cases h2 : at_ + (d + 1) ≤ B.length
      · rw [if_pos h2, if_pos (by omega)]
        have e3 : at_ + 1 + d = at_ + (d + 1) := by omega
        rw [List.foldl_cons, e3]
        rfl
      · rw [if_neg h2, if_neg (by omega)]
theorem ref_num (B : List Int) (s : Sq) (hl : B.length ≤ 9223372036854775807) (ha : s.1 ≤ B.length) (k : Nat) (hk : 9 ≤ k) : platenref20_Reader_Number.f k B (s.1 : Int) s.2 = some (qn B s, ((qs B s).1 : Int), (qs B s).2) := by
  unfold platenref20_Reader_Number.f
  rw [ref_num_l0 B s.2 hl 8 0 0 s.1 (by omega) (by omega) ha k (by omega)]
  unfold qn qs fold8
  by_cases h : s.1 + 8 ≤ B.length
  · simp only [if_pos h]
  · simp only [if_neg h]
theorem qs_le (B : List Int) (s : Sq) : (qs B s).1 ≤ B.length := by unfold qs; split <;> simp_all
theorem qn_u (B : List Int) (s : Sq) (hb : byt B) : 0 ≤ qn B s ∧ qn B s < 18446744073709551616 := by
  unfold qn
  split
  · rename_i h
    have hl : ((B.drop s.1).take 8).length = 8 := by simp; omega
    have hby : byt ((B.drop s.1).take 8) := fun x hx => hb x (List.mem_of_mem_drop (List.mem_of_mem_take hx))
    match hx : (B.drop s.1).take 8, hl with
    | [b0, b1, b2, b3, b4, b5, b6, b7], _ =>
      rw [hx] at hby
      have h0 := hby b0 (by simp); have h1 := hby b1 (by simp); have h2 := hby b2 (by simp); have h3 := hby b3 (by simp)
      have h4 := hby b4 (by simp); have h5 := hby b5 (by simp); have h6 := hby b6 (by simp); have h7 := hby b7 (by simp)
      rw [fold8_eq hby]
      unfold poly
      omega
  · omega
theorem qts_le (B : List Int) (s : Sq) (hb : byt B) : (qts B s).1 ≤ B.length := by
  have h1 := qs_le B s
  have h2 := qn_u B s hb
  unfold qts
  split
  · exact h1
  · simp only; omega
theorem qbs_le (B : List Int) (s : Sq) (h : s.1 ≤ B.length) : (qbs B s).1 ≤ B.length := by
  unfold qbs
  split
  · exact h
  · rename_i h2; simp only; omega
theorem qcs_le (least : Int) (B : List Int) (s : Sq) : (qcs least B s).1 ≤ B.length := by unfold qcs; split <;> exact qs_le _ _
section
variable {w0 w W : World} {g : Nat} {B : List Int} {L : List (Nat × Nat × Array Value)}
theorem Fq.len {s : Sq} (h : Fq w0 w W g B s L) : B.length ≤ 9223372036854775807 := by
  obtain ⟨A, c, _, _, hC⟩ := h.rd
  exact hC.1.2.1
theorem num_q (s : Sq) (ha : s.1 ≤ B.length) (h : Fq w0 w W g B s L) :
    Calls Try.prog 34 #[.pointer (some ⟨g, 0, none⟩)] W fun e W' => e = .returned (.int .i64 (qv B s)) ∧ Fq w0 w W' g B (qs B s) L :=
  (platenref20_Reader_number.calls 9 g B s.1 s.2 (qv B s) (qs B s).1 (qs B s).2 w0 W h.rd h.bel (by
    unfold platenref20_Reader_number.f
    rw [ref_num B s h.len ha 9 (Nat.le_refl _)]
    rfl)).mono fun _ _ ⟨h1, h2, h3, h4⟩ => ⟨h1, h.call h2 h3 h4⟩
theorem text_q (s : Sq) (ha : s.1 ≤ B.length) (hb : byt B) (h : Fq w0 w W g B s L) :
    Calls Try.prog 50 #[.pointer (some ⟨g, 0, none⟩)] W fun e W' => e = .returned (.string (qt B s)) ∧ Fq w0 w W' g B (qts B s) L :=
  (platenref20_Reader_Text.calls 9 g B s.1 s.2 (qt B s) (qts B s).1 (qts B s).2 w0 W h.rd h.bel (by
    unfold platenref20_Reader_Text.f
    have h1 := qs_le B s
    have h2 := qn_u B s hb
    rw [ref_num B s h.len ha 9 (Nat.le_refl _)]
    simp only [Option.bind_some]
    rw [if_pos ⟨by omega, by omega, h2.1⟩]
    have e : (((B.length - (qs B s).1 : Nat) : Int)) = (B.length : Int) - ((qs B s).1 : Int) := by omega
    unfold qt qts
    rw [e]
    by_cases h3 : (B.length : Int) - ((qs B s).1 : Int) < qn B s
    · rw [if_pos h3, if_pos h3, if_pos h3]
    · rw [if_neg h3, if_neg h3, if_neg h3]
      simp only [Int.toNat_natCast]
      have e6 : ((qs B s).1 : Int) + qn B s = (((qs B s).1 + (qn B s).toNat : Nat) : Int) := by omega
      rw [e6])).mono fun _ _ ⟨h1, h2, h3, h4⟩ => ⟨h1, h.call h2 h3 h4⟩
theorem truth_q (s : Sq) (ha : s.1 ≤ B.length) (h : Fq w0 w W g B s L) :
    Calls Try.prog 44 #[.pointer (some ⟨g, 0, none⟩)] W fun e W' => e = .returned (.bool (qb B s)) ∧ Fq w0 w W' g B (qbs B s) L :=
  (platenref20_Reader_truth.calls g B s.1 s.2 (qb B s) (qbs B s).1 (qbs B s).2 w0 W h.rd h.bel (by
    have hl := h.len
    unfold platenref20_Reader_truth.f qb qbs
    by_cases h1 : (s.1 : Int) ≥ (B.length : Int)
    · rw [if_pos h1, if_pos (.inl (by omega)), if_pos (.inl (by omega))]
    · rw [if_neg h1, if_pos (by omega), if_pos (by omega)]
      by_cases h2 : rd B (s.1 : Int) > 1
      · rw [if_pos h2, if_pos (.inr h2), if_pos (.inr h2)]
      · have hn : ¬ (B.length ≤ s.1 ∨ 1 < rd B (s.1 : Int)) := by omega
        have w1 : wrap64 ((s.1 : Int) + 1) = ((s.1 + 1 : Nat) : Int) := by unfold wrap64; omega
        have w2 : wrap64 (((s.1 + 1 : Nat) : Int) - 1) = (s.1 : Int) := by unfold wrap64; omega
        rw [if_neg h2, if_neg hn, if_neg hn, w1, w2, if_pos (by omega), if_pos (by omega)])).mono fun _ _ ⟨h1, h2, h3, h4⟩ => ⟨h1, h.call h2 h3 h4⟩
theorem count_q (least : Int) (hl : 1 ≤ least ∧ least < 1000) (s : Sq) (ha : s.1 ≤ B.length) (hb : byt B) (h : Fq w0 w W g B s L) :
    Calls Try.prog 35 #[.pointer (some ⟨g, 0, none⟩), .int .i64 least] W fun e W' => e = .returned (.int .i64 (qc least B s)) ∧ Fq w0 w W' g B (qcs least B s) L :=
  (platenref20_Reader_Count.calls 9 g B s.1 s.2 least (qc least B s) (qcs least B s).1 (qcs least B s).2 w0 W h.rd h.bel (by
    have hlen := h.len
    have h1 := qs_le B s
    have h2 := qn_u B s hb
    unfold platenref20_Reader_Count.f
    rw [ref_num B s h.len ha 9 (Nat.le_refl _)]
    simp only [Option.bind_some]
    have e1 : IntKind.u64.wrap least = least := wraps_u64 _ (by omega) (by omega)
    have e2 : wrap64 ((B.length : Int) - ((qs B s).1 : Int)) = (((B.length - (qs B s).1 : Nat) : Int)) := by unfold wrap64; omega
    have e3 : IntKind.u64.wrap (((B.length - (qs B s).1 : Nat) : Int)) = (((B.length - (qs B s).1 : Nat) : Int)) := wraps_u64 _ (by omega) (by omega)
    have e4 : Int.tdiv (((B.length - (qs B s).1 : Nat) : Int)) least = (((B.length - (qs B s).1 : Nat) : Int)) / least := Int.tdiv_eq_ediv_of_nonneg (by omega)
    have h3 : 0 ≤ (((B.length - (qs B s).1 : Nat) : Int)) / least := Int.ediv_nonneg (by omega) (by omega)
    have h4 : (((B.length - (qs B s).1 : Nat) : Int)) / least ≤ (((B.length - (qs B s).1 : Nat) : Int)) := Int.ediv_le_self _ (by omega)
    have e5 : IntKind.u64.wrap ((((B.length - (qs B s).1 : Nat) : Int)) / least) = (((B.length - (qs B s).1 : Nat) : Int)) / least := wraps_u64 _ h3 (by omega)
    rw [e1, e2, e3, e4, e5, if_neg (by omega)]
    unfold qc qcs
    by_cases h5 : (((B.length - (qs B s).1 : Nat) : Int)) / least < qn B s
    · rw [if_pos h5, if_pos h5, if_pos h5]
    · rw [if_neg h5, if_neg h5, if_neg h5])).mono fun _ _ ⟨h1, h2, h3, h4⟩ => ⟨h1, h.call h2 h3 h4⟩
end
def qx3 (B : List Int) (s : Sq) : Sq := qts B (qs B (qs B s))
def qxE (B : List Int) (s : Sq) : Sq := qs B (qs B (qs B (qs B (qs B (qs B (qs B (qx3 B s)))))))
def qxV (B : List Int) (s : Sq) : S50 := ⟨qv B s, qv B (qs B s), qt B (qs B (qs B s)), qv B (qx3 B s), qv B (qs B (qx3 B s)), qv B (qs B (qs B (qx3 B s))), qv B (qs B (qs B (qs B (qx3 B s)))), qv B (qs B (qs B (qs B (qs B (qx3 B s))))), qv B (qs B (qs B (qs B (qs B (qs B (qx3 B s)))))), qv B (qs B (qs B (qs B (qs B (qs B (qs B (qx3 B s))))))) ⟩
theorem qxE_le (B : List Int) (s : Sq) : (qxE B s).1 ≤ B.length := qs_le _ _
section
variable {w0 w W : World} {g : Nat} {B : List Int} {L : List (Nat × Nat × Array Value)}
theorem ref_number (B : List Int) (s : Sq) (hl : B.length ≤ 9223372036854775807) (ha : s.1 ≤ B.length) : platenref20_Reader_number.f 9 B (s.1 : Int) s.2 = some (qv B s, ((qs B s).1 : Int), (qs B s).2) := by
  unfold platenref20_Reader_number.f
  rw [ref_num B s hl ha 9 (Nat.le_refl _)]
  rfl
theorem ref_text (B : List Int) (s : Sq) (hl : B.length ≤ 9223372036854775807) (ha : s.1 ≤ B.length) (hb : byt B) : platenref20_Reader_Text.f 9 B (s.1 : Int) s.2 = some (qt B s, ((qts B s).1 : Int), (qts B s).2) := by
  unfold platenref20_Reader_Text.f
  have h1 := qs_le B s
  have h2 := qn_u B s hb
  rw [ref_num B s hl ha 9 (Nat.le_refl _)]
  simp only [Option.bind_some]
  rw [if_pos ⟨by omega, by omega, h2.1⟩]
  have e : (((B.length - (qs B s).1 : Nat) : Int)) = (B.length : Int) - ((qs B s).1 : Int) := by omega
  unfold qt qts
  rw [e]
  by_cases h3 : (B.length : Int) - ((qs B s).1 : Int) < qn B s
  · rw [if_pos h3, if_pos h3, if_pos h3]
  · rw [if_neg h3, if_neg h3, if_neg h3]
    simp only [Int.toNat_natCast]
    have e6 : ((qs B s).1 : Int) + qn B s = (((qs B s).1 + (qn B s).toNat : Nat) : Int) := by omega
    rw [e6]
theorem box_q (s : Sq) (ha : s.1 ≤ B.length) (hb : byt B) (h : Fq w0 w W g B s L) :
    Calls Try.prog 48 #[.pointer (some ⟨g, 0, none⟩)] W fun e W' => e = .returned (bxVal (qxV B s)) ∧ Fq w0 w W' g B (qxE B s) L ∧ KeepBut W W' g none := by
  have hl := h.len
  refine (platenref20_Reader_box.calls 9 g B s.1 s.2 _ _ _ _ _ _ _ _ _ _ (qxE B s).1 (qxE B s).2 w0 W h.rd h.bel ?_).mono fun _ _ ⟨h1, h2, h3, h4⟩ => ⟨h1, h.call h2 h3 h4, h4⟩
  unfold platenref20_Reader_box.f
  have h3 : (qx3 B s).1 ≤ B.length := qts_le _ _ hb
  rw [ref_number B s hl ha]; simp only [Option.bind_some]
  rw [ref_number B _ hl (qs_le _ _)]; simp only [Option.bind_some]
  rw [ref_text B _ hl (qs_le _ _) hb]; simp only [Option.bind_some]
  rw [show qts B (qs B (qs B s)) = qx3 B s from rfl, ref_number B _ hl h3]; simp only [Option.bind_some]
  rw [ref_number B _ hl (qs_le _ _)]; simp only [Option.bind_some]
  rw [ref_number B _ hl (qs_le _ _)]; simp only [Option.bind_some]
  rw [ref_number B _ hl (qs_le _ _)]; simp only [Option.bind_some]
  rw [ref_number B _ hl (qs_le _ _)]; simp only [Option.bind_some]
  rw [ref_number B _ hl (qs_le _ _)]; simp only [Option.bind_some]
  rw [ref_number B _ hl (qs_le _ _)]; simp only [Option.bind_some]
  rfl
def qxs (B : List Int) : Nat → Sq → List S50 × Sq
  | 0, s => ([], s)
  | n + 1, s => if s.2 = true then ([], s) else (qxV B s :: (qxs B n (qxE B s)).1, (qxs B n (qxE B s)).2)
def qrS (B : List Int) (s : Sq) : Sq := qbs B (qbs B (qs B s))
def qrV (B : List Int) (s : Sq) : S48 := ⟨qv B s, qb B (qs B s), qb B (qbs B (qs B s)), (qxs B (qc 80 B (qrS B s)).toNat (qcs 80 B (qrS B s))).1⟩
def qrE (B : List Int) (s : Sq) : Sq := (qxs B (qc 80 B (qrS B s)).toNat (qcs 80 B (qrS B s))).2
theorem qxs_le (B : List Int) : ∀ (n : Nat) (s : Sq), s.1 ≤ B.length → (qxs B n s).2.1 ≤ B.length
  | 0, s, h => h
  | n + 1, s, h => by
    unfold qxs
    split
    · exact h
    · exact qxs_le B n _ (qxE_le B s)
theorem qrE_le (B : List Int) (s : Sq) : (qrE B s).1 ≤ B.length := qxs_le _ _ _ (qcs_le _ _ _)
theorem qc_range (least : Int) (hl : 1 ≤ least) (B : List Int) (s : Sq) (hb : byt B) (hlen : B.length ≤ 1099511627776) : 0 ≤ qc least B s ∧ qc least B s ≤ (B.length : Int) / least := by
  have h1 := qs_le B s
  have h2 := qn_u B s hb
  have h3 : 0 ≤ ((B.length - (qs B s).1 : Nat) : Int) / least := Int.ediv_nonneg (by omega) (by omega)
  have h4 : ((B.length - (qs B s).1 : Nat) : Int) / least ≤ (B.length : Int) / least := Int.ediv_le_ediv (by omega) (by omega)
  have h5 : (B.length : Int) / least ≤ B.length := Int.ediv_le_self _ (by omega)
  unfold qc
  split
  · exact ⟨by omega, by omega⟩
  · have : wrap64 (qn B s) = qn B s := by unfold wrap64; omega
    rw [this]
    omega
set_option maxHeartbeats 1000000 in
set_option maxRecDepth 100000 in
theorem row_q (s : Sq) (ha : s.1 ≤ B.length) (hb : byt B) (h : Fq w0 w W g B s L) (hlen : B.length ≤ 1099511627776) :
    Calls Try.prog 45 #[.pointer (some ⟨g, 0, none⟩)] W fun e W' => ∃ v, e = .returned (.agg #[.int .i64 (qrV B s).f0, .bool (qrV B s).f1, .bool (qrV B s).f2, v]) ∧
      k50.R 50 W' W.heap.size (fun k => W.heap.size ≤ k) v (qrV B s).f3 ∧ Fq w0 w W' g B (qrE B s) L ∧ KeepBut W W' g none := by
  have HF := Aside0.mk h
  have H0 := Aside0.mk (Fq.start h.rd h.bel)
  have hgW := Aside0.mk h.rd.lt
  have BY := Aside0.mk hb
  clear h hb
  go_enter Try.func45, Try.ntmps45
  go_wp2_with fail
  refine (num_q s ha (Fq.alloc (Fq.alloc H0.out _ _) _ _)).mono ?_
  rintro e W1 ⟨rfl, h⟩
  have hL1 : ∀ x ∈ [(W.heap.size, 48, #[Value.int IntKind.i64 0, Value.bool false, Value.bool false, Value.slice none 0 0])], x.1 ≠ W.heap.size + 1 := by
    intro x hx; rw [List.mem_singleton.1 hx]; simp only; omega
  have HL1 := Aside0.mk hL1
  have h0 : Fq w0 W W1 g B (qs B s) [(W.heap.size + 1, 48, #[Value.int IntKind.i64 0, Value.bool false, Value.bool false, Value.slice none 0 0]), (W.heap.size, 48, #[Value.int IntKind.i64 0, Value.bool false, Value.bool false, Value.slice none 0 0])] := by
    have e : ∀ o, (W.alloc o).heap.size = W.heap.size + 1 := fun o => by simp
    rw [e] at h
    exact h
  have hc := blk_cell (h0.blk (List.mem_cons_self))
  have hf := blk_frozen (h0.blk (List.mem_cons_self))
  have H1 := Aside0.mk (Fq.set _ _ _ h0 hL1 0 (.int .i64 (qv B s)))
  clear h h0 hL1
  go_wp2_with fail
  refine (truth_q _ (qs_le _ _) H1.out).mono ?_
  rintro e W2 ⟨rfl, h⟩
  have hc := blk_cell (h.blk (List.mem_cons_self))
  have hf := blk_frozen (h.blk (List.mem_cons_self))
  have H2 := Aside0.mk (Fq.set _ _ _ h HL1.out 1 (.bool (qb B (qs B s))))
  clear h H1
  go_wp2_with fail
  refine (truth_q _ (qbs_le _ _ (qs_le _ _)) H2.out).mono ?_
  rintro e W3 ⟨rfl, h⟩
  have hc := blk_cell (h.blk (List.mem_cons_self))
  have hf := blk_frozen (h.blk (List.mem_cons_self))
  have H3 := Aside0.mk (Fq.set _ _ _ h HL1.out 2 (.bool (qb B (qbs B (qs B s)))))
  clear h H2
  go_wp2_with fail
  refine (count_q 80 (by omega) _ (qbs_le _ _ (qbs_le _ _ (qs_le _ _))) BY.out H3.out).mono ?_
  rintro e W4 ⟨rfl, h⟩
  have hm := qc_range 80 (by omega) B (qbs B (qbs B (qs B s))) BY.out hlen
  obtain ⟨n0, hn0⟩ := Int.eq_ofNat_of_zero_le hm.1
  have hn1 : n0 ≤ 13743895347 := by omega
  have HN := Aside0.mk hn0
  rw [hn0]
  have h4 : Fq w0 W W4 g B (qcs 80 B (qrS B s)) [(W.heap.size + 1, 48, #[.int .i64 (qv B s), .bool (qb B (qs B s)), .bool (qb B (qbs B (qs B s))), .slice none 0 0]), (W.heap.size, 48, #[Value.int IntKind.i64 0, Value.bool false, Value.bool false, Value.slice none 0 0])] := by
    simp only [List.setIfInBounds_toArray, List.set_cons_zero, List.set_cons_succ] at h; exact h
  have H4 := Aside0.mk h4
  clear h h4 H3 hm hn0 hc hf
  go_wp2_with fail
  go_loopg [5] n0 (fun kq v5 wr => ∃ (xs : List S50) (s' : Sq) (vB : Value), xs.length + kq = n0 ∧ v5 = .int .i64 (xs.length : Int) ∧ s'.1 ≤ B.length ∧
    Aside0 (Fq w0 W wr g B s' [(W.heap.size + 1, 48, #[.int .i64 (qv B s), .bool (qb B (qs B s)), .bool (qb B (qbs B (qs B s))), vB]), (W.heap.size, 48, #[.int .i64 0, .bool false, .bool false, .slice none 0 0])]) ∧
    Aside0 (k50.R 50 wr W.heap.size (fun k => W.heap.size ≤ k) vB xs) ∧ Aside0 (xs ++ (qxs B kq s').1 = (qrV B s).f3 ∧ (qxs B kq s').2 = qrE B s))
  case atStart => exact ⟨[], _, .slice none 0 0, by simp, rfl, qcs_le _ _ _, H4, ⟨Kd.R_nil _ _ _ _ _⟩, ⟨by have := HN.out; simp only [qrV, qrS, this, List.nil_append, Int.toNat_natCast], by have := HN.out; simp only [qrE, qrS, this, Int.toNat_natCast]⟩⟩
  case round =>
    clear H4
    obtain ⟨xs, s', vB, hx, rfl, hsl, HFr, HR, HE⟩ := hrel
    have hb3 := HFr.out.blk (List.mem_cons_self)
    have hc := blk_cell hb3
    have hf := blk_frozen hb3
    obtain ⟨A, c, hbk, hg0, hT⟩ := HFr.out.rd
    have hcg := blk_cell hbk
    obtain ⟨Av, cv, rfl⟩ := Kd.R_slice HR.out
    clear hb3 hbk hT
    by_cases hend : gk = 0 ∨ s'.2 = true
    · have EQ := Aside0.mk (show xs = (qrV B s).f3 ∧ s' = qrE B s from by
        have h := HE.out
        rcases hend with rfl | hs2
        · simpa [qxs] using h
        · cases gk with
          | zero => simpa [qxs] using h
          | succ k => simpa [qxs, hs2] using h)
      have htest : (decide (xs.length < n0) = false) ∨ (decide (xs.length < n0) = true ∧ s'.2 = true) := by
        rcases Nat.lt_or_ge xs.length n0 with h1 | h1
        · exact .inr ⟨by simpa using h1, hend.resolve_left (by omega)⟩
        · exact .inl (by simpa using h1)
      clear HE hend
      have hb0 := HFr.out.blk (List.mem_cons_of_mem _ (List.mem_singleton.2 rfl))
      have hc0 := blk_cell hb0
      have hf0 := blk_frozen hb0
      have H12 := Aside0.mk (Fq.set _ _ _ (Fq.set _ _ _ (Fq.set _ _ _ (Fq.set _ _ _ (HFr.out.sub (L' := [(W.heap.size, 48, #[Value.int IntKind.i64 0, Value.bool false, Value.bool false, Value.slice none 0 0])]) (fun x hx => List.mem_cons_of_mem _ hx)) (fun x hx => absurd hx (by simp)) 0 (.int .i64 (qv B s))) (fun x hx => absurd hx (by simp)) 1 (.bool (qb B (qs B s)))) (fun x hx => absurd hx (by simp)) 2 (.bool (qb B (qbs B (qs B s))))) (fun x hx => absurd hx (by simp)) 3 (.slice Av xs.length cv))
      have R12 := Aside0.mk (Kd.R_far (p := ⟨W.heap.size, 3, none⟩) (Kd.R_far (p := ⟨W.heap.size, 2, none⟩) (Kd.R_far (p := ⟨W.heap.size, 1, none⟩) (Kd.R_far (p := ⟨W.heap.size, 0, none⟩) (Kd.R_types HR.out (HFr.out.blk (List.mem_cons_of_mem _ (List.mem_singleton.2 rfl))) (by decide)) (fun _ hk => hk.2) (.int .i64 (qv B s))) (fun _ hk => hk.2) (.bool (qb B (qs B s)))) (fun _ hk => hk.2) (.bool (qb B (qbs B (qs B s))))) (fun _ hk => hk.2) (.slice Av xs.length cv))
      clear hb0
      rcases htest with ht | ⟨ht, hs2⟩
      all_goals
        try rw [hs2] at hcg
        try clear hs2
        go_wp2
        obtain ⟨W12, hW⟩ : ∃ X, ((((wr.setCell ⟨W.heap.size, 0, none⟩ (.int .i64 (qv B s))).setCell ⟨W.heap.size, 1, none⟩ (.bool (qb B (qs B s)))).setCell ⟨W.heap.size, 2, none⟩ (.bool (qb B (qbs B (qs B s))))).setCell ⟨W.heap.size, 3, none⟩ (.slice Av xs.length cv)) = X := ⟨_, rfl⟩
        have H13 : Fq w0 W W12 g B s' [(W.heap.size, 48, #[.int .i64 (qv B s), .bool (qb B (qs B s)), .bool (qb B (qbs B (qs B s))), .slice Av xs.length cv])] := by
          rw [← hW]; have h := H12.out; simp only [List.setIfInBounds_toArray, List.set_cons_zero, List.set_cons_succ] at h; exact h
        have R13 : k50.R 50 W12 W.heap.size (fun k => W.heap.size ≤ k) (.slice Av xs.length cv) xs := by
          rw [← hW]; exact Kd.R_mono R12.out (fun _ hk => hk.1)
        rw [hW]
        clear hc hf hc0 hf0 H12 hW hcg
        have hc := blk_cell (H13.blk (List.mem_cons_self))
        have HFF := Aside0.mk (HF.out.call H13.1 H13.2.1 H13.2.2.1)
        have RR := Aside0.mk R13
        have HKK := Aside0.mk H13.2.2.1
        clear H13 HF H0 HFr HR R13 R12
        refine bodyPost_ret (v := .agg #[.int .i64 (qv B s), .bool (qb B (qs B s)), .bool (qb B (qbs B (qs B s))), .slice Av xs.length cv]) (by simp [results, Try.results45, go_sem, hc]) rfl ⟨_, rfl, ?_, ?_, HKK.out⟩
        · rw [← EQ.out.1]; exact RR.out
        · rw [← EQ.out.2]; exact HFF.out
    · obtain ⟨k, rfl⟩ : ∃ k, gk = k + 1 := ⟨gk - 1, by omega⟩
      have hs2 : s'.2 = false := by cases h : s'.2 with | true => exact absurd (.inr h) hend | false => rfl
      have EQ := Aside0.mk (show xs ++ (qxV B s' :: (qxs B k (qxE B s')).1) = (qrV B s).f3 ∧ (qxs B k (qxE B s')).2 = qrE B s from by have h := HE.out; simpa [qxs, hs2] using h)
      rw [hs2] at hcg
      clear HE hs2 hend
      have ht : decide (xs.length < n0) = true := by simp; omega
      go_wp2_with fail
      clear hcg hf hc
      refine (box_q s' hsl BY.out HFr.out).mono ?_
      rintro e W5 ⟨rfl, h5, k5⟩
      have H5 := Aside0.mk h5
      have hc := blk_cell (h5.blk (List.mem_cons_self))
      have hf := blk_frozen (h5.blk (List.mem_cons_self))
      have hlt5 := h5.lt (List.mem_cons_self)
      clear h5
      have H5a := Aside0.mk (Fq.sub (L' := [(W.heap.size + 1, 48, #[Value.int IntKind.i64 (qv B s), Value.bool (qb B (qs B s)), Value.bool (qb B (qbs B (qs B s))), Value.slice Av xs.length cv]), (W.heap.size, 48, #[Value.int IntKind.i64 0, Value.bool false, Value.bool false, Value.slice none 0 0])]) (Fq.alloc H5.out #[.int .i64 (qxV B s').f0, .int .i64 (qxV B s').f1, .string (qxV B s').f2, .int .i64 (qxV B s').f3, .int .i64 (qxV B s').f4, .int .i64 (qxV B s').f5, .int .i64 (qxV B s').f6, .int .i64 (qxV B s').f7, .int .i64 (qxV B s').f8, .int .i64 (qxV B s').f9] 50) (fun x hx => List.mem_cons_of_mem _ hx))
      have R5a := Aside0.mk (Kd.R_alloc (R_keepG HR.out k5 hgW.out) (.cells #[.int .i64 (qxV B s').f0, .int .i64 (qxV B s').f1, .string (qxV B s').f2, .int .i64 (qxV B s').f3, .int .i64 (qxV B s').f4, .int .i64 (qxV B s').f5, .int .i64 (qxV B s').f6, .int .i64 (qxV B s').f7, .int .i64 (qxV B s').f8, .int .i64 (qxV B s').f9] 50))
      have hs5 := Aside0.mk H5a.out.keep.1
      unfold bxVal
      go_wp2_with ((with_reducible refine gate_builtin (b := .append) (xs := #[.tmp 34, .tmp 36]) rfl ?_); at_builtin; go_loud (refine Kd.R_append k50 (w0 := W5.alloc _) W.heap.size rfl (.tmp 34) (.tmp 36) 46 50 (bxVal z50) 88 rfl Try.underlying46 info50 rfl (by decide) (by decide) (.slice Av xs.length cv) xs (qxV B s') [.int .i64 (qxV B s').f0, .int .i64 (qxV B s').f1, .string (qxV B s').f2, .int .i64 (qxV B s').f3, .int .i64 (qxV B s').f4, .int .i64 (qxV B s').f5, .int .i64 (qxV B s').f6, .int .i64 (qxV B s').f7, .int .i64 (qxV B s').f8, .int .i64 (qxV B s').f9] (fun k => W.heap.size ≤ k) (fun _ => False) rfl (by first | (go_simp; done) | (go_simp; rfl)) (k50_cells _ _ _ _) (fun k hk => hk.elim) (fun k hk => Nat.le_trans hs5.out hk) R5a.out (Below.refl _ _) hs5.out (by omega) ?_); intro v1 w6 HR6 HB6 HG6 HD6; obtain ⟨A6, c6, hv6⟩ := Kd.R_slice HR6; subst hv6; have H6 := Aside0.mk (Fq.grown H5a.out R5a.out (Nat.le_refl _) HG6 (H5a.out.bel.trans (HB6.mono H0.out.bel.size)) (by decide) (by intro x hx; simp only [List.mem_cons, List.not_mem_nil, or_false] at hx; rcases hx with rfl | rfl <;> exact (by decide : (50 : Nat) ≠ 48))); have R6 := Aside0.mk HR6; have hc6 := blk_cell (H6.out.blk (List.mem_cons_self)); have hf6 := blk_frozen (H6.out.blk (List.mem_cons_self)); clear HR6 HB6 HG6 HD6)
      have H7 := Aside0.mk (Fq.set _ _ _ H6.out HL1.out 3 (.slice A6 (xs ++ [qxV B s']).length c6))
      have R7 := Aside0.mk (Kd.R_set R6.out (H6.out.blk (List.mem_cons_self)) (by decide) 3 (.slice A6 (xs ++ [qxV B s']).length c6))
      simp only [List.setIfInBounds_toArray, List.set_cons_zero, List.set_cons_succ] at H7
      simp only [List.length_append, List.length_cons, List.length_nil, Nat.zero_add] at H7 R7
      go_roundg k
      case measure => omega
      case rel => exact ⟨xs ++ [qxV B s'], qxE B s', _, by simp; omega, by first | go_num | (simp only [List.length_append, List.length_cons, List.length_nil]; go_num), qxE_le _ _, H7, ⟨by simpa using R7.out⟩, ⟨by rw [List.append_assoc]; exact EQ.out.1, EQ.out.2⟩⟩
end
def qrs (B : List Int) : Nat → Sq → List S48 × Sq
  | 0, s => ([], s)
  | n + 1, s => if s.2 = true then ([], s) else (qrV B s :: (qrs B n (qrE B s)).1, (qrs B n (qrE B s)).2)
def qpS (B : List Int) (s : Sq) : Sq := qbs B (qs B (qs B s))
def qpV (B : List Int) (s : Sq) : S45 := ⟨qv B s, qv B (qs B s), qb B (qs B (qs B s)), (qrs B (qc 18 B (qpS B s)).toNat (qcs 18 B (qpS B s))).1⟩
def qpE (B : List Int) (s : Sq) : Sq := (qrs B (qc 18 B (qpS B s)).toNat (qcs 18 B (qpS B s))).2
theorem qrs_le (B : List Int) : ∀ (n : Nat) (s : Sq), s.1 ≤ B.length → (qrs B n s).2.1 ≤ B.length
  | 0, s, h => h
  | n + 1, s, h => by
    unfold qrs
    split
    · exact h
    · exact qrs_le B n _ (qrE_le B s)
theorem qpE_le (B : List Int) (s : Sq) : (qpE B s).1 ≤ B.length := qrs_le _ _ _ (qcs_le _ _ _)
section
variable {w0 w W : World} {g : Nat} {B : List Int} {L : List (Nat × Nat × Array Value)}
set_option maxHeartbeats 1000000 in
set_option maxRecDepth 100000 in
theorem page_q (s : Sq) (ha : s.1 ≤ B.length) (hb : byt B) (h : Fq w0 w W g B s L) (hlen : B.length ≤ 1099511627776) :
    Calls Try.prog 36 #[.pointer (some ⟨g, 0, none⟩)] W fun e W' => ∃ v, e = .returned (.agg #[.int .i64 (qpV B s).f0, .int .i64 (qpV B s).f1, .bool (qpV B s).f2, v]) ∧
      Kd.S k48 48 W' W.heap.size (fun k => W.heap.size ≤ k) v (qpV B s).f3 ∧ Fq w0 w W' g B (qpE B s) L ∧ KeepBut W W' g none := by
  have HF := Aside0.mk h
  have H0 := Aside0.mk (Fq.start h.rd h.bel)
  have hgW := Aside0.mk h.rd.lt
  have BY := Aside0.mk hb
  clear h hb
  go_enter Try.func36, Try.ntmps36
  go_wp2_with fail
  refine (num_q s ha (Fq.alloc (Fq.alloc H0.out _ _) _ _)).mono ?_
  rintro e W1 ⟨rfl, h⟩
  have hL1 : ∀ x ∈ [(W.heap.size, 45, #[Value.int IntKind.i64 0, Value.int IntKind.i64 0, Value.bool false, Value.slice none 0 0])], x.1 ≠ W.heap.size + 1 := by
    intro x hx; rw [List.mem_singleton.1 hx]; simp only; omega
  have HL1 := Aside0.mk hL1
  have h0 : Fq w0 W W1 g B (qs B s) [(W.heap.size + 1, 45, #[Value.int IntKind.i64 0, Value.int IntKind.i64 0, Value.bool false, Value.slice none 0 0]), (W.heap.size, 45, #[Value.int IntKind.i64 0, Value.int IntKind.i64 0, Value.bool false, Value.slice none 0 0])] := by
    have e : ∀ o, (W.alloc o).heap.size = W.heap.size + 1 := fun o => by simp
    rw [e] at h
    exact h
  have hc := blk_cell (h0.blk (List.mem_cons_self))
  have hf := blk_frozen (h0.blk (List.mem_cons_self))
  have H1 := Aside0.mk (Fq.set _ _ _ h0 hL1 0 (.int .i64 (qv B s)))
  clear h h0 hL1
  go_wp2_with fail
  refine (num_q _ (qs_le _ _) H1.out).mono ?_
  rintro e W2 ⟨rfl, h⟩
  have hc := blk_cell (h.blk (List.mem_cons_self))
  have hf := blk_frozen (h.blk (List.mem_cons_self))
  have H2 := Aside0.mk (Fq.set _ _ _ h HL1.out 1 (.int .i64 (qv B (qs B s))))
  clear h H1
  go_wp2_with fail
  refine (truth_q _ (qs_le _ _) H2.out).mono ?_
  rintro e W3 ⟨rfl, h⟩
  have hc := blk_cell (h.blk (List.mem_cons_self))
  have hf := blk_frozen (h.blk (List.mem_cons_self))
  have H3 := Aside0.mk (Fq.set _ _ _ h HL1.out 2 (.bool (qb B (qs B (qs B s)))))
  clear h H2
  go_wp2_with fail
  refine (count_q 18 (by omega) _ (qbs_le _ _ (qs_le _ _)) BY.out H3.out).mono ?_
  rintro e W4 ⟨rfl, h⟩
  have hm := qc_range 18 (by omega) B (qbs B (qs B (qs B s))) BY.out hlen
  obtain ⟨n0, hn0⟩ := Int.eq_ofNat_of_zero_le hm.1
  have hn1 : n0 ≤ 61083979320 := by omega
  have HN := Aside0.mk hn0
  rw [hn0]
  have h4 : Fq w0 W W4 g B (qcs 18 B (qpS B s)) [(W.heap.size + 1, 45, #[.int .i64 (qv B s), .int .i64 (qv B (qs B s)), .bool (qb B (qs B (qs B s))), .slice none 0 0]), (W.heap.size, 45, #[Value.int IntKind.i64 0, Value.int IntKind.i64 0, Value.bool false, Value.slice none 0 0])] := by
    simp only [List.setIfInBounds_toArray, List.set_cons_zero, List.set_cons_succ] at h; exact h
  have H4 := Aside0.mk h4
  clear h h4 H3 hm hn0 hc hf
  go_wp2_with fail
  go_loopg [5] n0 (fun kq v5 wr => ∃ (xs : List S48) (s' : Sq) (vB : Value), xs.length + kq = n0 ∧ v5 = .int .i64 (xs.length : Int) ∧ s'.1 ≤ B.length ∧
    Aside0 (Fq w0 W wr g B s' [(W.heap.size + 1, 45, #[.int .i64 (qv B s), .int .i64 (qv B (qs B s)), .bool (qb B (qs B (qs B s))), vB]), (W.heap.size, 45, #[.int .i64 0, .int .i64 0, .bool false, .slice none 0 0])]) ∧
    Aside0 (Kd.S k48 48 wr W.heap.size (fun k => W.heap.size ≤ k) vB xs) ∧ Aside0 (xs ++ (qrs B kq s').1 = (qpV B s).f3 ∧ (qrs B kq s').2 = qpE B s))
  case atStart => exact ⟨[], _, .slice none 0 0, by simp, rfl, qcs_le _ _ _, H4, ⟨Kd.S_nil _ _ _ _ _⟩, ⟨by have := HN.out; simp only [qpV, qpS, this, List.nil_append, Int.toNat_natCast], by have := HN.out; simp only [qpE, qpS, this, Int.toNat_natCast]⟩⟩
  case round =>
    clear H4
    obtain ⟨xs, s', vB, hx, rfl, hsl, HFr, HR, HE⟩ := hrel
    have hb3 := HFr.out.blk (List.mem_cons_self)
    have hc := blk_cell hb3
    have hf := blk_frozen hb3
    obtain ⟨A, c, hbk, hg0, hT⟩ := HFr.out.rd
    have hcg := blk_cell hbk
    obtain ⟨Av, cv, rfl⟩ := Kd.S_slice HR.out
    clear hb3 hbk hT
    by_cases hend : gk = 0 ∨ s'.2 = true
    · have EQ := Aside0.mk (show xs = (qpV B s).f3 ∧ s' = qpE B s from by
        have h := HE.out
        rcases hend with rfl | hs2
        · simpa [qrs] using h
        · cases gk with
          | zero => simpa [qrs] using h
          | succ k => simpa [qrs, hs2] using h)
      have htest : (decide (xs.length < n0) = false) ∨ (decide (xs.length < n0) = true ∧ s'.2 = true) := by
        rcases Nat.lt_or_ge xs.length n0 with h1 | h1
        · exact .inr ⟨by simpa using h1, hend.resolve_left (by omega)⟩
        · exact .inl (by simpa using h1)
      clear HE hend
      have hb0 := HFr.out.blk (List.mem_cons_of_mem _ (List.mem_singleton.2 rfl))
      have hc0 := blk_cell hb0
      have hf0 := blk_frozen hb0
      have H12 := Aside0.mk (Fq.set _ _ _ (Fq.set _ _ _ (Fq.set _ _ _ (Fq.set _ _ _ (HFr.out.sub (L' := [(W.heap.size, 45, #[Value.int IntKind.i64 0, Value.int IntKind.i64 0, Value.bool false, Value.slice none 0 0])]) (fun x hx => List.mem_cons_of_mem _ hx)) (fun x hx => absurd hx (by simp)) 0 (.int .i64 (qv B s))) (fun x hx => absurd hx (by simp)) 1 (.int .i64 (qv B (qs B s)))) (fun x hx => absurd hx (by simp)) 2 (.bool (qb B (qs B (qs B s))))) (fun x hx => absurd hx (by simp)) 3 (.slice Av xs.length cv))
      have R12 := Aside0.mk (Kd.S_far (p := ⟨W.heap.size, 3, none⟩) (Kd.S_far (p := ⟨W.heap.size, 2, none⟩) (Kd.S_far (p := ⟨W.heap.size, 1, none⟩) (Kd.S_far (p := ⟨W.heap.size, 0, none⟩) (Kd.S_types HR.out (HFr.out.blk (List.mem_cons_of_mem _ (List.mem_singleton.2 rfl))) (by decide)) (fun _ hk => hk.2) (.int .i64 (qv B s))) (fun _ hk => hk.2) (.int .i64 (qv B (qs B s)))) (fun _ hk => hk.2) (.bool (qb B (qs B (qs B s))))) (fun _ hk => hk.2) (.slice Av xs.length cv))
      clear hb0
      rcases htest with ht | ⟨ht, hs2⟩
      all_goals
        try rw [hs2] at hcg
        try clear hs2
        go_wp2
        obtain ⟨W12, hW⟩ : ∃ X, ((((wr.setCell ⟨W.heap.size, 0, none⟩ (.int .i64 (qv B s))).setCell ⟨W.heap.size, 1, none⟩ (.int .i64 (qv B (qs B s)))).setCell ⟨W.heap.size, 2, none⟩ (.bool (qb B (qs B (qs B s))))).setCell ⟨W.heap.size, 3, none⟩ (.slice Av xs.length cv)) = X := ⟨_, rfl⟩
        have H13 : Fq w0 W W12 g B s' [(W.heap.size, 45, #[.int .i64 (qv B s), .int .i64 (qv B (qs B s)), .bool (qb B (qs B (qs B s))), .slice Av xs.length cv])] := by
          rw [← hW]; have h := H12.out; simp only [List.setIfInBounds_toArray, List.set_cons_zero, List.set_cons_succ] at h; exact h
        have R13 : Kd.S k48 48 W12 W.heap.size (fun k => W.heap.size ≤ k) (.slice Av xs.length cv) xs := by
          rw [← hW]; exact Kd.S_mono R12.out (fun _ hk => hk.1)
        rw [hW]
        clear hc hf hc0 hf0 H12 hW hcg
        have hc := blk_cell (H13.blk (List.mem_cons_self))
        have HFF := Aside0.mk (HF.out.call H13.1 H13.2.1 H13.2.2.1)
        have RR := Aside0.mk R13
        have HKK := Aside0.mk H13.2.2.1
        clear H13 HF H0 HFr HR R13 R12
        refine bodyPost_ret (v := .agg #[.int .i64 (qv B s), .int .i64 (qv B (qs B s)), .bool (qb B (qs B (qs B s))), .slice Av xs.length cv]) (by simp [results, Try.results36, go_sem, hc]) rfl ⟨_, rfl, ?_, ?_, HKK.out⟩
        · rw [← EQ.out.1]; exact RR.out
        · rw [← EQ.out.2]; exact HFF.out
    · obtain ⟨k, rfl⟩ : ∃ k, gk = k + 1 := ⟨gk - 1, by omega⟩
      have hs2 : s'.2 = false := by cases h : s'.2 with | true => exact absurd (.inr h) hend | false => rfl
      have EQ := Aside0.mk (show xs ++ (qrV B s' :: (qrs B k (qrE B s')).1) = (qpV B s).f3 ∧ (qrs B k (qrE B s')).2 = qpE B s from by have h := HE.out; simpa [qrs, hs2] using h)
      rw [hs2] at hcg
      clear HE hs2 hend
      have ht : decide (xs.length < n0) = true := by simp; omega
      go_wp2_with fail
      clear hcg hf hc
      have hWwr := Aside0.mk HFr.out.keep.1
      have hvb := Aside0.mk (fun k (hk : (Value.slice Av xs.length cv).ownBlock = some k) => ((Kd.R_bound (Kd.S_R HR.out)).1 k hk).2.2.1)
      have HRe := Aside0.mk (Kd.S_mono HR.out (ok' := fun k => W.heap.size ≤ k ∧ k ≠ g) (fun k hk => ⟨hk, by have := hgW.out; omega⟩))
      refine (row_q s' hsl BY.out HFr.out hlen).mono ?_
      rintro e W5 ⟨v5, rfl, r5, h5, k5⟩
      obtain ⟨A5, c5, hv5⟩ := Kd.R_slice r5
      subst hv5
      have H5 := Aside0.mk h5
      have hc := blk_cell (h5.blk (List.mem_cons_self))
      have hf := blk_frozen (h5.blk (List.mem_cons_self))
      have hlt5 := h5.lt (List.mem_cons_self)
      have H5a := Aside0.mk (Fq.sub (L' := [(W.heap.size + 1, 45, #[Value.int IntKind.i64 (qv B s), Value.int IntKind.i64 (qv B (qs B s)), Value.bool (qb B (qs B (qs B s))), Value.slice Av xs.length cv]), (W.heap.size, 45, #[Value.int IntKind.i64 0, Value.int IntKind.i64 0, Value.bool false, Value.slice none 0 0])]) (Fq.alloc H5.out #[.int .i64 (qrV B s').f0, .bool (qrV B s').f1, .bool (qrV B s').f2, .slice A5 (qrV B s').f3.length c5] 48) (fun x hx => List.mem_cons_of_mem _ hx))
      have R5a := Aside0.mk (Kd.S_alloc (Kd.S_oldK HRe.out k5) (.cells #[.int .i64 (qrV B s').f0, .bool (qrV B s').f1, .bool (qrV B s').f2, .slice A5 (qrV B s').f3.length c5] 48))
      have RR5 := Aside0.mk (Kd.R_alloc r5 (.cells #[.int .i64 (qrV B s').f0, .bool (qrV B s').f1, .bool (qrV B s').f2, .slice A5 (qrV B s').f3.length c5] 48))
      have hs5 := Aside0.mk H5a.out.keep.1
      clear h5 k5 r5
      go_wp2_with ((with_reducible refine gate_builtin (b := .append) (xs := #[.tmp 34, .tmp 36]) rfl ?_); at_builtin; go_loud (refine Kd.S_append k48 (w0 := W5.alloc _) W.heap.size rfl (.tmp 34) (.tmp 36) 43 48 (.agg #[(.int .i64 0), (.bool false), (.bool false), (.slice none 0 0)]) 40 rfl Try.underlying43 infoA48 rfl (by decide) (by decide) (.slice Av xs.length cv) xs (qrV B s') [.int .i64 (qrV B s').f0, .bool (qrV B s').f1, .bool (qrV B s').f2, .slice A5 (qrV B s').f3.length c5] (fun k => W.heap.size ≤ k) (fun k => wr.heap.size ≤ k) rfl (by first | (go_simp; done) | (go_simp; rfl)) (k48_mkM _ _ _ _ (Kd.R_lower RR5.out hWwr.out)) (fun k hk => ⟨Nat.le_trans hWwr.out hk, fun e => by have := hvb.out k e.symm; omega⟩) (fun k hk => Nat.le_trans hs5.out hk) (Kd.S_mono R5a.out (fun k hk => ⟨hk.1, fun h2 => Nat.lt_irrefl _ (Nat.lt_of_lt_of_le hk.2 h2)⟩)) (Below.refl _ _) hs5.out (by omega) ?_); intro v1 w6 HR6 HB6 HG6 HD6; obtain ⟨A6, c6, hv6⟩ := Kd.S_slice HR6; subst hv6; have H6 := Aside0.mk (Fq.grown H5a.out (Kd.S_R R5a.out) (Nat.le_refl _) HG6 (H5a.out.bel.trans (HB6.mono H0.out.bel.size)) (by decide) (by intro x hx; simp only [List.mem_cons, List.not_mem_nil, or_false] at hx; rcases hx with rfl | rfl <;> exact (by decide : (48 : Nat) ≠ 45))); have R6 := Aside0.mk HR6; have hc6 := blk_cell (H6.out.blk (List.mem_cons_self)); have hf6 := blk_frozen (H6.out.blk (List.mem_cons_self)); clear HR6 HB6 HG6 HD6)
      have H7 := Aside0.mk (Fq.set _ _ _ H6.out HL1.out 3 (.slice A6 (xs ++ [qrV B s']).length c6))
      have R7 := Aside0.mk (Kd.S_set R6.out (H6.out.blk (List.mem_cons_self)) (by decide) 3 (.slice A6 (xs ++ [qrV B s']).length c6))
      simp only [List.setIfInBounds_toArray, List.set_cons_zero, List.set_cons_succ] at H7
      simp only [List.length_append, List.length_cons, List.length_nil, Nat.zero_add] at H7 R7
      go_roundg k
      case measure => omega
      case rel => exact ⟨xs ++ [qrV B s'], qrE B s', _, by simp; omega, by first | go_num | (simp only [List.length_append, List.length_cons, List.length_nil]; go_num), qrE_le _ _, H7, ⟨by simpa using R7.out⟩, ⟨by rw [List.append_assoc]; exact EQ.out.1, EQ.out.2⟩⟩
end
def toS (B : List Int) (q : Sq) : St := (B.drop q.1, q.2)
theorem tk_ok {n : Nat} {l : List Int} (h : n ≤ l.length) : tk (n : Int) l false = (l.take n, l.drop n, false) := by
  unfold tk
  rw [if_neg (by simp; omega)]
  simp
section
variable (B : List Int) (hl : B.length ≤ 1099511627776) (hb : byt B)
theorem num_sim {q : Sq} (h : (qs B q).2 = false) : nv (toS B q) = qv B q ∧ ns (toS B q) = toS B (qs B q) ∧ q.2 = false ∧ q.1 ≤ (qs B q).1 := by
  unfold qs at h
  by_cases h8 : q.1 + 8 ≤ B.length
  · rw [if_pos h8] at h
    have e : tk 8 (B.drop q.1) q.2 = ((B.drop q.1).take 8, (B.drop q.1).drop 8, false) := by
      simp only at h
      rw [h]
      exact tk_ok (n := 8) (by simp; omega)
    refine ⟨?_, ?_, h, ?_⟩
    · unfold nv numR toS qv qn
      rw [if_pos h8]
      simp only [e]
    · unfold ns numR toS qs
      simp only [e, if_pos h8, List.drop_drop]
      rw [h]
    · unfold qs; rw [if_pos h8]; simp only; omega
  · rw [if_neg h8] at h
    cases h
theorem num_mis {q : Sq} (h : (ns (toS B q)).2 = false) : (qs B q).2 = false := by
  have h1 := tk_bwd h
  have h2 : (tk 8 (B.drop q.1) q.2).1.length = 8 := by have := h1.2.2.1; unfold toS at this; simp only at this; omega
  have h3 : 8 ≤ (B.drop q.1).length := by
    have := congrArg List.length h1.2.2.2
    unfold toS at this
    simp only [List.length_append] at this
    omega
  unfold qs
  rw [if_pos (by simp at h3; omega)]
  exact h1.1
include hl hb in
theorem text_sim {q : Sq} (h : (qts B q).2 = false) : tv (toS B q) = qt B q ∧ ts (toS B q) = toS B (qts B q) ∧ q.2 = false ∧ q.1 ≤ (qts B q).1 ∧ (qts B q).1 ≤ B.length := by
  have hu := qn_u B q hb
  have hle := qs_le B q
  unfold qts at h
  by_cases hlt : ((B.length - (qs B q).1 : Nat) : Int) < qn B q
  · rw [if_pos hlt] at h; cases h
  · rw [if_neg hlt] at h
    simp only at h
    obtain ⟨n1, n2, n3, n4⟩ := num_sim B h
    obtain ⟨m, hm⟩ := Int.eq_ofNat_of_zero_le hu.1
    have hw : qv B q = (m : Int) := by unfold qv; rw [hm]; unfold wrap64; omega
    have n1' : (numR (toS B q).1 (toS B q).2).1 = (m : Int) := n1.trans hw
    have n2' : (numR (toS B q).1 (toS B q).2).2 = toS B (qs B q) := n2
    have e : tk (m : Int) (B.drop (qs B q).1) false = ((B.drop (qs B q).1).take m, (B.drop (qs B q).1).drop m, false) := tk_ok (by simp; omega)
    have e1 : txtR (toS B q).1 (toS B q).2 = (strOfNums ((B.drop (qs B q).1).take m), (B.drop (qs B q).1).drop m, false) := by
      unfold txtR
      rw [n1', n2']
      unfold toS
      simp only
      rw [h, e]
    refine ⟨?_, ?_, n3, ?_, qts_le B q hb⟩
    · unfold tv qt
      rw [e1, if_neg hlt, hm]
      simp
    · unfold ts toS qts
      rw [if_neg hlt, hm]
      simp only [Int.toNat_natCast]
      have := congrArg Prod.snd e1
      unfold toS at this
      simp only at this
      rw [this, h, List.drop_drop]
    · unfold qts
      rw [if_neg hlt]
      simp only
      omega
include hb in
theorem text_mis {q : Sq} (h : (ts (toS B q)).2 = false) : (qts B q).2 = false := by
  have h1 : (tk (nv (toS B q)) (ns (toS B q)).1 (ns (toS B q)).2).2.2 = false := h
  have h2 := tk_bwd h1
  have h3 := num_mis B (q := q) h2.1
  obtain ⟨n1, n2, n3, n4⟩ := num_sim B h3
  have hu := qn_u B q hb
  have hle := qs_le B q
  have h4 : qv B q ≤ ((B.length - (qs B q).1 : Nat) : Int) := by
    have h5 := congrArg List.length h2.2.2.2
    have h6 := h2.2.2.1
    rw [n2] at h5 h6
    rw [n1] at h5 h6
    unfold toS at h5 h6
    simp only [List.length_append, List.length_drop] at h5
    dsimp only at h6
    omega
  have h0 : 0 ≤ qv B q := by rw [← n1]; exact h2.2.1
  have hq : qn B q < 18446744073709551616 := hu.2
  have hw : qv B q = qn B q := by
    unfold qv at h4 h0 ⊢
    unfold wrap64 at h4 h0 ⊢
    omega
  unfold qts
  rw [if_neg (by rw [← hw]; omega)]
  exact h3
theorem truth_sim {q : Sq} (h : (qbs B q).2 = false) : bv (toS B q) = qb B q ∧ bs (toS B q) = toS B (qbs B q) ∧ q.2 = false ∧ q.1 ≤ (qbs B q).1 := by
  unfold qbs at h
  by_cases hc : B.length ≤ q.1 ∨ 1 < rd B q.1
  · rw [if_pos hc] at h; cases h
  · rw [if_neg hc] at h
    have hlt : q.1 < B.length := by omega
    have h1 : ¬ 1 < rd B (q.1 : Int) := fun h => hc (.inr h)
    have e : tk 1 (B.drop q.1) q.2 = ([rd B (q.1 : Int)], B.drop (q.1 + 1), false) := by
      have e0 : B.drop q.1 = rd B (q.1 : Int) :: B.drop (q.1 + 1) := by
        rw [List.drop_eq_getElem_cons hlt]
        simp [rd, List.getD_eq_getElem?_getD, List.getElem?_eq_getElem hlt]
      simp only at h
      rw [h, e0]
      exact tk_ok (n := 1) (by simp)
    have e1 : truR (toS B q).1 (toS B q).2 = (rd B (q.1 : Int) == 1, B.drop (q.1 + 1), false) := by
      unfold truR toS
      simp only [e]
      rw [if_neg (by simp)]
      have : rd [rd B (q.1 : Int)] 0 = rd B (q.1 : Int) := rfl
      rw [this]
      simp [h1]
    refine ⟨?_, ?_, h, ?_⟩
    · unfold bv qb; rw [e1, if_neg hc]
    · unfold bs; rw [e1]; unfold qbs toS; rw [if_neg hc]; simp only; rw [h]
    · unfold qbs; rw [if_neg hc]; simp only; omega
theorem truth_mis {q : Sq} (hq : q.1 ≤ B.length) (h : (bs (toS B q)).2 = false) : (qbs B q).2 = false := by
  have e : (truR (toS B q).1 (toS B q).2).2.2 = false := h
  have hlt0 : ¬ B.length ≤ q.1 ∧ q.2 = false ∧ ¬ 1 < rd B (q.1 : Int) := by
    by_cases hle : B.length ≤ q.1
    · have e0 : B.drop q.1 = [] := List.drop_eq_nil_of_le hle
      have : tk 1 (B.drop q.1) q.2 = ([], [], true) := by rw [e0]; unfold tk; rw [if_pos (by simp)]
      unfold truR toS at e
      simp only [this] at e
      simp at e
    · have hlt : q.1 < B.length := by omega
      have e0 : B.drop q.1 = rd B (q.1 : Int) :: B.drop (q.1 + 1) := by
        rw [List.drop_eq_getElem_cons hlt]
        simp [rd, List.getD_eq_getElem?_getD, List.getElem?_eq_getElem hlt]
      have hq2 : q.2 = false := by
        cases h2 : q.2 with
        | false => rfl
        | true =>
          have : tk 1 (B.drop q.1) q.2 = ([], B.drop q.1, true) := by rw [h2]; unfold tk; rw [if_pos (by simp)]
          unfold truR toS at e
          simp only [this] at e
          simp at e
      refine ⟨hle, hq2, ?_⟩
      have : tk 1 (B.drop q.1) q.2 = ([rd B (q.1 : Int)], B.drop (q.1 + 1), false) := by rw [hq2, e0]; exact tk_ok (n := 1) (by simp)
      unfold truR toS at e
      simp only [this] at e
      rw [if_neg (by simp)] at e
      have e2 : rd [rd B (q.1 : Int)] 0 = rd B (q.1 : Int) := rfl
      rw [e2] at e
      simpa using e
  unfold qbs
  rw [if_neg (by rintro (h | h); exact hlt0.1 h; exact hlt0.2.2 h)]
  exact hlt0.2.1
include hl hb in
theorem count_sim {least least' : Int} (h1 : 1 ≤ least') (h2 : least' ≤ least) {q : Sq} (h : (qcs least B q).2 = false) : mnyR least' (toS B q).1 (toS B q).2 = (qc least B q, toS B (qcs least B q)) ∧ q.2 = false ∧ q.1 ≤ (qcs least B q).1 := by
  have hu := qn_u B q hb
  have hle := qs_le B q
  unfold qcs at h
  by_cases hc : ((B.length - (qs B q).1 : Nat) : Int) / least < qn B q
  · rw [if_pos hc] at h; cases h
  · rw [if_neg hc] at h
    obtain ⟨n1, n2, n3, n4⟩ := num_sim B h
    have h3 : ((B.length - (qs B q).1 : Nat) : Int) / least ≤ ((B.length - (qs B q).1 : Nat) : Int) := Int.ediv_le_self _ (by omega)
    have hw : qv B q = qn B q := by unfold qv wrap64; omega
    have h4 : ((B.length - (qs B q).1 : Nat) : Int) / least ≤ ((B.length - (qs B q).1 : Nat) : Int) / least' := by
      have hx : 0 ≤ ((B.length - (qs B q).1 : Nat) : Int) / least := Int.ediv_nonneg (by omega) (by omega)
      rw [Int.le_ediv_iff_mul_le (by omega)]
      have hy : ((B.length - (qs B q).1 : Nat) : Int) / least * least ≤ ((B.length - (qs B q).1 : Nat) : Int) := Int.ediv_mul_le _ (by omega)
      exact Int.le_trans (Int.mul_le_mul_of_nonneg_left h2 hx) hy
    refine ⟨?_, n3, ?_⟩
    · have n1' : (numR (toS B q).1 (toS B q).2).1 = qn B q := n1.trans hw
      have n2' : (numR (toS B q).1 (toS B q).2).2 = toS B (qs B q) := n2
      have hlen : ((toS B (qs B q)).1.length : Int) = ((B.length - (qs B q).1 : Nat) : Int) := by unfold toS; simp
      unfold mnyR
      rw [n1', n2', hlen, if_neg (by omega)]
      unfold qc qcs
      rw [if_neg hc, if_neg hc]
      exact Prod.ext (by rw [n1']; exact hw.symm) n2'
    · unfold qcs; rw [if_neg hc]; exact n4
include hb in
theorem count_mis {least least' : Int} (h1 : 1 ≤ least) {q : Sq} (h : (mnyR least (toS B q).1 (toS B q).2).2.2 = false) (h2 : (mnyR least (toS B q).1 (toS B q).2).1 ≤ ((mnyR least (toS B q).1 (toS B q).2).2.1.length : Int) / least') (h3 : least ≤ least') : (qcs least' B q).2 = false := by
  have hu := qn_u B q hb
  have hle := qs_le B q
  unfold mnyR at h h2
  by_cases hc : (numR (toS B q).1 (toS B q).2).1 < 0 ∨ ((numR (toS B q).1 (toS B q).2).2.1.length : Int) / least < (numR (toS B q).1 (toS B q).2).1
  · rw [if_pos hc] at h; cases h
  · rw [if_neg hc] at h h2
    have h4 := num_mis B (q := q) h
    obtain ⟨n1, n2, n3, n4⟩ := num_sim B h4
    have n1' : (numR (toS B q).1 (toS B q).2).1 = qv B q := n1
    have n2' : (numR (toS B q).1 (toS B q).2).2 = toS B (qs B q) := n2
    have hlen : ((toS B (qs B q)).1.length : Int) = ((B.length - (qs B q).1 : Nat) : Int) := by unfold toS; simp
    rw [n1', n2', hlen] at hc h2
    have h5 : ((B.length - (qs B q).1 : Nat) : Int) / least' ≤ ((B.length - (qs B q).1 : Nat) : Int) := Int.ediv_le_self _ (by omega)
    have hw : qv B q = qn B q := by
      have h0 : 0 ≤ qv B q := by omega
      unfold qv at h0 h2 ⊢
      unfold wrap64 at h0 h2 ⊢
      omega
    unfold qcs
    rw [if_neg (by omega)]
    exact h4
def Sim {α : Type} (pv : St → α) (ps : St → St) (v : Sq → α) (e : Sq → Sq) : Prop :=
  ∀ q : Sq, (e q).2 = false → pv (toS B q) = v q ∧ ps (toS B q) = toS B (e q) ∧ q.2 = false ∧ q.1 ≤ (e q).1
theorem nsim : Sim B nv ns (qv B) (qs B) := fun q h => num_sim B h
include hl hb in
theorem tsim : Sim B tv ts (qt B) (qts B) := fun q h => ⟨(text_sim B hl hb h).1, (text_sim B hl hb h).2.1, (text_sim B hl hb h).2.2.1, (text_sim B hl hb h).2.2.2.1⟩
theorem bsim : Sim B bv bs (qb B) (qbs B) := fun q h => truth_sim B h
include hl hb in
theorem box_sim : Sim B bxV bxS (qxV B) (qxE B) := by
  intro q h
  obtain ⟨v9, s9, h8, l9⟩ := nsim B _ h
  obtain ⟨v8, s8, h7, l8⟩ := nsim B _ h8
  obtain ⟨v7, s7, h6, l7⟩ := nsim B _ h7
  obtain ⟨v6, s6, h5, l6⟩ := nsim B _ h6
  obtain ⟨v5, s5, h4, l5⟩ := nsim B _ h5
  obtain ⟨v4, s4, h3, l4⟩ := nsim B _ h4
  obtain ⟨v3, s3, h2, l3⟩ := nsim B _ h3
  obtain ⟨v2, s2, h1, l2⟩ := tsim B hl hb _ h2
  obtain ⟨v1, s1, h0, l1⟩ := nsim B _ h1
  obtain ⟨v0, s0, hz, l0⟩ := nsim B _ h0
  have e3 : bxS3 (toS B q) = toS B (qx3 B q) := by unfold bxS3 qx3; rw [s0, s1, s2]
  refine ⟨?_, ?_, hz, ?_⟩
  · unfold bxV qxV
    rw [e3, v0, s0, v1, s1, v2]
    have e4 : toS B (qx3 B q) = toS B (qts B (qs B (qs B q))) := rfl
    rw [v3, s3, v4, s4, v5, s5, v6, s6, v7, s7, v8, s8, v9]
  · unfold bxS qxE
    rw [e3, s3, s4, s5, s6, s7, s8, s9]
  · unfold qxE qx3; unfold qx3 at l3 l4 l5 l6 l7 l8 l9; omega
include hl hb in
theorem boxes_sim : ∀ (n : Nat) (q : Sq), (qxs B n q).2.2 = false → bxsR n (toS B q) = ((qxs B n q).1, toS B (qxs B n q).2) ∧ q.2 = false ∧ q.1 ≤ (qxs B n q).2.1
  | 0, q, h => ⟨rfl, h, Nat.le_refl _⟩
  | n + 1, q, h => by
    unfold qxs at h ⊢
    by_cases hq : q.2 = true
    · rw [if_pos hq] at h; rw [hq] at h; cases h
    · rw [if_neg hq] at h
      obtain ⟨h1, h2, h3⟩ := boxes_sim n _ h
      obtain ⟨v, e, h4, h5⟩ := box_sim B hl hb q h2
      rw [if_neg hq]
      refine ⟨?_, h4, Nat.le_trans h5 h3⟩
      unfold bxsR
      rw [if_neg (show ¬ (toS B q).2 = true from hq), v, e, h1]
include hl hb in
theorem row_sim : Sim B rwV rwE (qrV B) (qrE B) := by
  intro q h
  obtain ⟨l1, h1, k1⟩ := boxes_sim B hl hb _ _ h
  obtain ⟨c1, h2, k2⟩ := count_sim B hl hb (least' := 72) (by omega) (by omega) h1
  obtain ⟨v2, e2, h3, k3⟩ := bsim B _ h2
  obtain ⟨v1, e1, h4, k4⟩ := bsim B _ h3
  obtain ⟨v0, e0, h5, k5⟩ := nsim B _ h4
  have eS : rwS (toS B q) = toS B (qrS B q) := by unfold rwS qrS; rw [e0, e1, e2]
  have eM : rwM (toS B q) = (qc 80 B (qrS B q), toS B (qcs 80 B (qrS B q))) := by unfold rwM; rw [eS, c1]
  refine ⟨?_, ?_, h5, ?_⟩
  · unfold rwV qrV
    rw [eM, v0, e0, v1, e1, v2]
    simp only [l1]
  · unfold rwE qrE
    rw [eM]
    simp only [l1]
  · show q.1 ≤ (qxs B (qc 80 B (qrS B q)).toNat (qcs 80 B (qrS B q))).2.1
    unfold qrS at k2 k1 ⊢; omega
include hl hb in
theorem rows_sim : ∀ (n : Nat) (q : Sq), (qrs B n q).2.2 = false → rwsR n (toS B q) = ((qrs B n q).1, toS B (qrs B n q).2) ∧ q.2 = false ∧ q.1 ≤ (qrs B n q).2.1
  | 0, q, h => ⟨rfl, h, Nat.le_refl _⟩
  | n + 1, q, h => by
    unfold qrs at h ⊢
    by_cases hq : q.2 = true
    · rw [if_pos hq] at h; rw [hq] at h; cases h
    · rw [if_neg hq] at h
      obtain ⟨h1, h2, h3⟩ := rows_sim n _ h
      obtain ⟨v, e, h4, h5⟩ := row_sim B hl hb q h2
      rw [if_neg hq]
      refine ⟨?_, h4, Nat.le_trans h5 h3⟩
      unfold rwsR
      rw [if_neg (show ¬ (toS B q).2 = true from hq), v, e, h1]
include hl hb in
theorem page_sim : Sim B pgV pgE (qpV B) (qpE B) := by
  intro q h
  obtain ⟨l1, h1, k1⟩ := rows_sim B hl hb _ _ h
  obtain ⟨c1, h2, k2⟩ := count_sim B hl hb (least' := 18) (by omega) (by omega) h1
  obtain ⟨v2, e2, h3, k3⟩ := bsim B _ h2
  obtain ⟨v1, e1, h4, k4⟩ := nsim B _ h3
  obtain ⟨v0, e0, h5, k5⟩ := nsim B _ h4
  have eS : pgS (toS B q) = toS B (qpS B q) := by unfold pgS qpS; rw [e0, e1, e2]
  have eM : pgM (toS B q) = (qc 18 B (qpS B q), toS B (qcs 18 B (qpS B q))) := by unfold pgM; rw [eS, c1]
  refine ⟨?_, ?_, h5, ?_⟩
  · unfold pgV qpV
    rw [eM, v0, e0, v1, e1, v2]
    simp only [l1]
  · unfold pgE qpE
    rw [eM]
    simp only [l1]
  · show q.1 ≤ (qrs B (qc 18 B (qpS B q)).toNat (qcs 18 B (qpS B q))).2.1
    unfold qpS at k2 k1 ⊢; omega
end
def qps (B : List Int) : Nat → Sq → List S45 × Sq
  | 0, s => ([], s)
  | n + 1, s => if s.2 = true then ([], s) else (qpV B s :: (qps B n (qpE B s)).1, (qps B n (qpE B s)).2)
theorem qps_le (B : List Int) : ∀ (n : Nat) (s : Sq), s.1 ≤ B.length → (qps B n s).2.1 ≤ B.length
  | 0, s, h => h
  | n + 1, s, h => by
    unfold qps
    split
    · exact h
    · exact qps_le B n _ (qpE_le B s)
section
variable (B : List Int) (hl : B.length ≤ 1099511627776) (hb : byt B)
include hl hb in
theorem pages_sim : ∀ (n : Nat) (q : Sq), (qps B n q).2.2 = false → pgsR n (toS B q) = ((qps B n q).1, toS B (qps B n q).2) ∧ q.2 = false ∧ q.1 ≤ (qps B n q).2.1
  | 0, q, h => ⟨rfl, h, Nat.le_refl _⟩
  | n + 1, q, h => by
    unfold qps at h ⊢
    by_cases hq : q.2 = true
    · rw [if_pos hq] at h; rw [hq] at h; cases h
    · rw [if_neg hq] at h
      obtain ⟨h1, h2, h3⟩ := pages_sim n _ h
      obtain ⟨v, e, h4, h5⟩ := page_sim B hl hb q h2
      rw [if_neg hq]
      refine ⟨?_, h4, Nat.le_trans h5 h3⟩
      unfold pgsR
      rw [if_neg (show ¬ (toS B q).2 = true from hq), v, e, h1]
include hb in
theorem byt_toS (q : Sq) : byt (toS B q).1 := fun x hx => hb x (List.mem_of_mem_drop hx)
theorem nback {s : St} (h : (ns s).2 = false) : s.2 = false := (tk_bwd (n := 8) (l := s.1) (bad := s.2) h).1
theorem tback {s : St} (h : (ts s).2 = false) : s.2 = false := nback (s := s) (tk_bwd (n := nv s) (l := (ns s).1) (bad := (ns s).2) h).1
theorem bback {s : St} (h : (bs s).2 = false) : s.2 = false := by
  unfold bs truR at h
  split at h
  · exact (tk_bwd (n := 1) (l := s.1) (bad := s.2) h).1
  · simp only [Bool.or_eq_false_iff] at h
    exact (tk_bwd (n := 1) (l := s.1) (bad := s.2) h.1).1
include hl hb in
theorem box_mis {q : Sq} (h : (bxS (toS B q)).2 = false) : (qxE B q).2 = false := by
  unfold bxS bxS3 at h
  have g8 := nback h
  have g7 := nback g8
  have g6 := nback g7
  have g5 := nback g6
  have g4 := nback g5
  have g3 := nback g4
  have g2 := nback g3
  have g1 := tback g2
  have g0 := nback g1
  have r0 := num_mis B (q := q) g0
  have s0 := (nsim B q r0).2.1
  rw [s0] at h g8 g7 g6 g5 g4 g3 g2 g1
  have r1 := num_mis B g1
  have s1 := (nsim B _ r1).2.1
  rw [s1] at h g8 g7 g6 g5 g4 g3 g2
  have r2 := text_mis B hb g2
  have s2 := (tsim B hl hb _ r2).2.1
  rw [s2] at h g8 g7 g6 g5 g4 g3
  have r3 := num_mis B g3
  have s3 := (nsim B _ r3).2.1
  rw [s3] at h g8 g7 g6 g5 g4
  have r4 := num_mis B g4
  have s4 := (nsim B _ r4).2.1
  rw [s4] at h g8 g7 g6 g5
  have r5 := num_mis B g5
  have s5 := (nsim B _ r5).2.1
  rw [s5] at h g8 g7 g6
  have r6 := num_mis B g6
  have s6 := (nsim B _ r6).2.1
  rw [s6] at h g8 g7
  have r7 := num_mis B g7
  have s7 := (nsim B _ r7).2.1
  rw [s7] at h g8
  have r8 := num_mis B g8
  have s8 := (nsim B _ r8).2.1
  rw [s8] at h
  exact num_mis B h
theorem bxsR_back {n : Nat} {s : St} (h : (bxsR n s).2.2 = false) : s.2 = false := by
  cases hx : s.2 with
  | false => rfl
  | true => cases n <;> simp [bxsR, hx] at h
theorem rwsR_back {n : Nat} {s : St} (h : (rwsR n s).2.2 = false) : s.2 = false := by
  cases hx : s.2 with
  | false => rfl
  | true => cases n <;> simp [rwsR, hx] at h
theorem pgsR_back {n : Nat} {s : St} (h : (pgsR n s).2.2 = false) : s.2 = false := by
  cases hx : s.2 with
  | false => rfl
  | true => cases n <;> simp [pgsR, hx] at h
include hl hb in
theorem boxes_mis : ∀ (n : Nat) (q : Sq), (bxsR n (toS B q)).2.2 = false → (qxs B n q).2.2 = false
  | 0, q, h => h
  | n + 1, q, h => by
    unfold bxsR at h
    unfold qxs
    by_cases hq : q.2 = true
    · rw [if_pos (show (toS B q).2 = true from hq)] at h; exact absurd (h.symm.trans hq) (by simp)
    · rw [if_neg (show ¬ (toS B q).2 = true from hq)] at h
      rw [if_neg hq]
      simp only at h ⊢
      have h1 := bxsR_back h
      have h2 := box_mis B hl hb h1
      have h3 := (box_sim B hl hb q h2).2.1
      rw [h3] at h
      exact boxes_mis n _ h
include hl hb in
theorem row_mis {q : Sq} (hq : q.1 ≤ B.length) (h : (rwE (toS B q)).2 = false) : (qrE B q).2 = false := by
  have hbx : (bxsR (rwM (toS B q)).1.toNat (rwM (toS B q)).2).2.2 = false := h
  have g3 : (mnyR 72 (rwS (toS B q)).1 (rwS (toS B q)).2).2.2 = false := bxsR_back hbx
  have g2 : (rwS (toS B q)).2 = false := by
    unfold mnyR at g3
    split at g3
    · cases g3
    · exact nback (s := rwS (toS B q)) g3
  unfold rwS at g2
  have g1 := bback g2
  have g0 := bback g1
  have r0 := num_mis B (q := q) g0
  have s0 := (nsim B q r0).2.1
  rw [s0] at g2 g1
  have r1 := truth_mis B (qs_le B q) g1
  have s1 := (bsim B _ r1).2.1
  rw [s1] at g2
  have r2 := truth_mis B (qbs_le B _ (qs_le B q)) g2
  have s2 := (bsim B _ r2).2.1
  have eS : rwS (toS B q) = toS B (qrS B q) := by unfold rwS qrS; rw [s0, s1, s2]
  have eM : rwM (toS B q) = mnyR 72 (toS B (qrS B q)).1 (toS B (qrS B q)).2 := by unfold rwM; rw [eS]
  rw [eS] at g3
  rw [eM] at hbx
  have k := mn_bwd 72 (toS B (qrS B q)) (byt_toS B hb _) g3
  have k2 := bxs_bwd _ _ k.2.2.2.2 hbx
  have k3 : (mnyR 72 (toS B (qrS B q)).1 (toS B (qrS B q)).2).1 ≤ ((mnyR 72 (toS B (qrS B q)).1 (toS B (qrS B q)).2).2.1.length : Int) / 80 := by
    have k4 := flat_le bxB 80 (fun x => by rw [bxB_length]; omega) (bxsR (mnyR 72 (toS B (qrS B q)).1 (toS B (qrS B q)).2).1.toNat (mnyR 72 (toS B (qrS B q)).1 (toS B (qrS B q)).2).2).1
    have k5 := congrArg List.length k2.2.1
    rw [List.length_append] at k5
    rw [k2.2.2.2.2] at k4
    have k6 : (bxsB (bxsR (mnyR 72 (toS B (qrS B q)).1 (toS B (qrS B q)).2).1.toNat (mnyR 72 (toS B (qrS B q)).1 (toS B (qrS B q)).2).2).1).length = ((bxsR (mnyR 72 (toS B (qrS B q)).1 (toS B (qrS B q)).2).1.toNat (mnyR 72 (toS B (qrS B q)).1 (toS B (qrS B q)).2).2).1.flatMap bxB).length := rfl
    rw [Int.le_ediv_iff_mul_le (by omega)]
    have := k.2.2.1
    omega
  have k7 := count_mis B hb (least := 72) (least' := 80) (by omega) g3 k3 (by omega)
  obtain ⟨c1, _, _⟩ := count_sim B hl hb (least' := 72) (by omega) (by omega) k7
  rw [c1] at hbx
  exact boxes_mis B hl hb _ _ hbx
include hl hb in
theorem rows_mis : ∀ (n : Nat) (q : Sq), q.1 ≤ B.length → (rwsR n (toS B q)).2.2 = false → (qrs B n q).2.2 = false
  | 0, q, hq0, h => h
  | n + 1, q, hq0, h => by
    unfold rwsR at h
    unfold qrs
    by_cases hq : q.2 = true
    · rw [if_pos (show (toS B q).2 = true from hq)] at h; exact absurd (h.symm.trans hq) (by simp)
    · rw [if_neg (show ¬ (toS B q).2 = true from hq)] at h
      rw [if_neg hq]
      simp only at h ⊢
      have h1 := rwsR_back h
      have h2 := row_mis B hl hb hq0 h1
      have h3 := (row_sim B hl hb q h2).2.1
      rw [h3] at h
      exact rows_mis n _ (qrE_le B _) h
include hl hb in
theorem page_mis {q : Sq} (hq : q.1 ≤ B.length) (h : (pgE (toS B q)).2 = false) : (qpE B q).2 = false := by
  have hbx : (rwsR (pgM (toS B q)).1.toNat (pgM (toS B q)).2).2.2 = false := h
  have g3 : (mnyR 18 (pgS (toS B q)).1 (pgS (toS B q)).2).2.2 = false := rwsR_back hbx
  have g2 : (pgS (toS B q)).2 = false := by
    unfold mnyR at g3
    split at g3
    · cases g3
    · exact nback (s := pgS (toS B q)) g3
  unfold pgS at g2
  have g1 := bback g2
  have g0 := nback g1
  have r0 := num_mis B (q := q) g0
  have s0 := (nsim B q r0).2.1
  rw [s0] at g2 g1
  have r1 := num_mis B g1
  have s1 := (nsim B _ r1).2.1
  rw [s1] at g2
  have r2 := truth_mis B (qs_le B _) g2
  have s2 := (bsim B _ r2).2.1
  have eS : pgS (toS B q) = toS B (qpS B q) := by unfold pgS qpS; rw [s0, s1, s2]
  have eM : pgM (toS B q) = mnyR 18 (toS B (qpS B q)).1 (toS B (qpS B q)).2 := by unfold pgM; rw [eS]
  rw [eS] at g3
  rw [eM] at hbx
  have k7 := count_mis B hb (least := 18) (least' := 18) (by omega) g3 (mny_range 18 (by omega) _).2 (by omega)
  obtain ⟨c1, _, _⟩ := count_sim B hl hb (least' := 18) (by omega) (by omega) k7
  rw [c1] at hbx
  exact rows_mis B hl hb _ _ (qcs_le _ _ _) hbx
include hl hb in
theorem pages_mis : ∀ (n : Nat) (q : Sq), q.1 ≤ B.length → (pgsR n (toS B q)).2.2 = false → (qps B n q).2.2 = false
  | 0, q, hq0, h => h
  | n + 1, q, hq0, h => by
    unfold pgsR at h
    unfold qps
    by_cases hq : q.2 = true
    · rw [if_pos (show (toS B q).2 = true from hq)] at h; exact absurd (h.symm.trans hq) (by simp)
    · rw [if_neg (show ¬ (toS B q).2 = true from hq)] at h
      rw [if_neg hq]
      simp only at h ⊢
      have h1 := pgsR_back h
      have h2 := page_mis B hl hb hq0 h1
      have h3 := (page_sim B hl hb q h2).2.1
      rw [h3] at h
      exact pages_mis n _ (qpE_le B _) h
end
theorem bits_xor (k : IntKind) (j : Nat) (hj : j ≤ k.bits) (hk : ∀ n : Int, 0 ≤ n → n < 2 ^ j → k.wrap n = n) (a b : Nat) (ha : a < 2 ^ j) (hb : b < 2 ^ j) :
    Go.bits .xor k a b = ((a ^^^ b : Nat) : Int) := by
  have hp : 2 ^ j ≤ 2 ^ k.bits := Nat.pow_le_pow_right (by decide) hj
  have ha' : a % 2 ^ k.bits = a := Nat.mod_eq_of_lt (Nat.lt_of_lt_of_le ha hp)
  have hb' : b % 2 ^ k.bits = b := Nat.mod_eq_of_lt (Nat.lt_of_lt_of_le hb hp)
  have cast : ∀ n : Nat, n < 2 ^ j → ((n : Nat) : Int) < 2 ^ j := fun n h => by exact_mod_cast h
  simp only [Go.bits, BitVec.ofInt_natCast, BitVec.toNat_xor, BitVec.toNat_ofNat, ha', hb']
  exact hk _ (Int.natCast_nonneg _) (cast _ (Nat.xor_lt_two_pow ha hb))
theorem xor_nat (a b : Nat) (ha : a < 2 ^ 64) (hb : b < 2 ^ 64) : Go.bits .xor .u64 a b = ((a ^^^ b : Nat) : Int) := bits_xor .u64 64 (Nat.le_refl _) wraps_u64 a b ha hb
def inU (n : Int) : Prop := 0 ≤ n ∧ n < 18446744073709551616
theorem inU_nat {n : Int} (h : inU n) : ∃ a : Nat, n = a ∧ a < 2 ^ 64 := by
  obtain ⟨a, ha⟩ := Int.eq_ofNat_of_zero_le h.1
  exact ⟨a, ha, by have := h.2; omega⟩
theorem xor_in {a b : Int} (ha : inU a) (hb : inU b) : inU (Go.bits .xor .u64 a b) := by
  obtain ⟨x, rfl, hx⟩ := inU_nat ha
  obtain ⟨y, rfl, hy⟩ := inU_nat hb
  rw [xor_nat x y hx hy]
  have := Nat.xor_lt_two_pow hx hy
  have h2 : x ^^^ y < 18446744073709551616 := this
  exact ⟨Int.natCast_nonneg _, by omega⟩
theorem byte_inU {c : Int} (h : 0 ≤ c ∧ c < 256) : inU c := ⟨h.1, by omega⟩
theorem fnv_in (s c : Int) : inU (fnv s c) := by unfold fnv inU; rw [wrapU]; omega
theorem fnvs_in (l : List Int) (s : Int) (hs : inU s) : inU (l.foldl fnv s) := by
  induction l generalizing s with
  | nil => exact hs
  | cons c l ih => exact ih _ (fnv_in _ _)
theorem fnv0 : inU 14695981039346656037 := ⟨by decide, by decide⟩
theorem wrap_inj {a b : Int} (ha : inU a) (hb : inU b) (h : wrap64 a = wrap64 b) : a = b := by
  unfold wrap64 at h
  obtain ⟨h0, h1⟩ := ha
  obtain ⟨h2, h3⟩ := hb
  omega
end Go.Proofs.Ytihiapjfdgoomaa.A
namespace Go.Proofs.Ytihiapjfdgoomaa.P
open Go.RowKit Go.Proofs.YtihiapjfdgoomaaW.PrintWords Go.Proofs.YtihiapjfdgoomaaW.PrintLast Go.Proofs.YtihiapjfdgoomaaW.PrintMore
attribute [local go_sem] max2_int min2_int max_two min_two max_three min_three max_four min_four   -- for this text's walks alone
set_option linter.unusedVariables false
set_option linter.unusedSimpArgs false
theorem eqA24 (d : Nat) (w : World) (x0 y0 : Int) (x1 y1 : Int) :
    (Op.equalIn (d + 2) 24 (.agg #[.int .i64 x0, .int .i64 x1]) (.agg #[.int .i64 y0, .int .i64 y1])).run Try.prog w = .ok (x0 == y0 && (x1 == y1)) w := by
  refine eqA_of Try.underlying24 (by kernel_rfl) ?_
  refine eqf_cons (by rfl) (by go_simp; rfl) (by go_simp; rfl) (by go_simp) ?_
  exact eqf_last (by rfl) (by go_simp; rfl) (by go_simp; rfl) (by go_simp)
attribute [local go_sem] max2_int min2_int max_two min_two max_three min_three max_four min_four   -- for this text's walks alone
theorem eqA50 (d : Nat) (w : World) (x0 y0 : Int) (x1 y1 : Int) (x2 y2 : ByteArray) (x3 y3 : Int) (x4 y4 : Int) (x5 y5 : Int) (x6 y6 : Int) (x7 y7 : Int) (x8 y8 : Int) (x9 y9 : Int) :
    (Op.equalIn (d + 2) 50 (.agg #[.int .i64 x0, .int .i64 x1, .string x2, .int .i64 x3, .int .i64 x4, .int .i64 x5, .int .i64 x6, .int .i64 x7, .int .i64 x8, .int .i64 x9]) (.agg #[.int .i64 y0, .int .i64 y1, .string y2, .int .i64 y3, .int .i64 y4, .int .i64 y5, .int .i64 y6, .int .i64 y7, .int .i64 y8, .int .i64 y9])).run Try.prog w = .ok (x0 == y0 && (x1 == y1 && (x2.toList == y2.toList && (x3 == y3 && (x4 == y4 && (x5 == y5 && (x6 == y6 && (x7 == y7 && (x8 == y8 && (x9 == y9)))))))))) w := by
  refine eqA_of Try.underlying50 (by kernel_rfl) ?_
  refine eqf_cons (by rfl) (by go_simp; rfl) (by go_simp; rfl) (by go_simp) ?_
  refine eqf_cons (by rfl) (by go_simp; rfl) (by go_simp; rfl) (by go_simp) ?_
  refine eqf_cons (by rfl) (by go_simp; rfl) (by go_simp; rfl) (by go_simp) ?_
  refine eqf_cons (by rfl) (by go_simp; rfl) (by go_simp; rfl) (by go_simp) ?_
  refine eqf_cons (by rfl) (by go_simp; rfl) (by go_simp; rfl) (by go_simp) ?_
  refine eqf_cons (by rfl) (by go_simp; rfl) (by go_simp; rfl) (by go_simp) ?_
  refine eqf_cons (by rfl) (by go_simp; rfl) (by go_simp; rfl) (by go_simp) ?_
  refine eqf_cons (by rfl) (by go_simp; rfl) (by go_simp; rfl) (by go_simp) ?_
  refine eqf_cons (by rfl) (by go_simp; rfl) (by go_simp; rfl) (by go_simp) ?_
  exact eqf_last (by rfl) (by go_simp; rfl) (by go_simp; rfl) (by go_simp)
end Go.Proofs.Ytihiapjfdgoomaa.P
