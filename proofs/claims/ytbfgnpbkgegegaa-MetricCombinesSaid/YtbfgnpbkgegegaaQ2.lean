import Derived.Test.YtbfgnpbkgegegaaQ1
namespace Go.Proofs.Ytbfgnpbkgegegaa
open Go.RowKit
set_option linter.unusedSimpArgs false
set_option linter.unusedVariables false

def stkB : List Int := [0, 0, 0, 0, 0, 0, 0, 0, 0, 1, 1, (-1), 0, 0, 0, 0, 0, 0, 0, 0, 0, 0, 0, 0, 0, (-1)]
def stkF : List Int := [0, 0, 0, 0, 0, 0, 0, 0, 0, 0, 0, 0, 0, 0, 0, 0, 0, 0, 0, 0, 0, 0, 0, 0, 0, 0]
set_option maxRecDepth 100000 in
set_option maxHeartbeats 2000000 in
theorem stk_own (w : World) : Calls Try.prog 24 #[] w fun e w' => ∃ r, e = .returned r ∧ RdO w' w.heap.size r stkB stkF ∧ Below w.heap.size w w' := by
  have HM := Lib.hid (made_own 0 0 0 0 0 0 0 0 0 1 1 (-1) 0 0 0 0 0 0 0 0 0 0 0 0 0 (-1) 0 0 0 0 0 0 0 0 0 0 0 0 0 0 0 0 0 0 0 0 0 0 0 0 0 0 (w.alloc (.cells #[.slice none 0 0, .slice none 0 0] 28)))
  go_enter Try.func24, Try.ntmps24
  go_wp2_with fail
  refine HM.out.mono ?_
  clear HM
  rintro e w1 ⟨r, rfl, ⟨g1, g2, c1, c2, rfl, ⟨q1, q2, q3, q4, q5⟩, o1, o2, _, _⟩, hbel⟩
  have HX1 := Lib.hid o1
  have HX2 := Lib.hid o2
  clear o1 o2
  simp at q1 q2
  have g := blk_below (blk_new w (.cells #[.slice none 0 0, .slice none 0 0] 28)) hbel
  have m0 := blk_cell g 0
  have m1 := blk_cell g 1
  have m2 := blk_frozen g
  simp at m0 m1
  have HB := Lib.hid (bl_call (bl_alloc (Below.refl _ _) _) hbel)
  clear hbel g
  go_wp2_with fail
  refine bodyPost_ret (v := .agg #[.slice (some ⟨g1, 0, none⟩) 26 c1, .slice (some ⟨g2, 0, none⟩) 26 c2]) (by simp [results, Try.results24, go_sem, m0, m1]) rfl ⟨_, rfl, ⟨g1, g2, c1, c2, rfl, ⟨by omega, by omega, q3, q4, q5⟩, ?_, ?_, rfl, rfl⟩, ?_⟩
  · exact (HX1.out.far (by simp; omega) _).far (by simp; omega) _
  · exact (HX2.out.far (by simp; omega) _).far (by simp; omega) _
  · exact bl_set (bl_set HB.out (by simp) _) (by simp) _
def callsB : List Int := [0, 0, 0, 0, 0, 0, 0, 0, 0, 1, 1, 0, 0, 0, 0, 0, 0, 0, 0, 0, 0, 0, 0, 0, 0, 0]
def callsF : List Int := [0, 0, 0, 0, 0, 0, 0, 0, 0, 0, 0, 0, 0, 0, 0, 0, 0, 0, 0, 0, 0, 0, 0, 0, 0, 0]
set_option maxRecDepth 100000 in
set_option maxHeartbeats 2000000 in
theorem calls_own (w : World) : Calls Try.prog 23 #[] w fun e w' => ∃ r, e = .returned r ∧ RdO w' w.heap.size r callsB callsF ∧ Below w.heap.size w w' := by
  have HM := Lib.hid (made_own 0 0 0 0 0 0 0 0 0 1 1 0 0 0 0 0 0 0 0 0 0 0 0 0 0 0 0 0 0 0 0 0 0 0 0 0 0 0 0 0 0 0 0 0 0 0 0 0 0 0 0 0 (w.alloc (.cells #[.slice none 0 0, .slice none 0 0] 28)))
  go_enter Try.func23, Try.ntmps23
  go_wp2_with fail
  refine HM.out.mono ?_
  clear HM
  rintro e w1 ⟨r, rfl, ⟨g1, g2, c1, c2, rfl, ⟨q1, q2, q3, q4, q5⟩, o1, o2, _, _⟩, hbel⟩
  have HX1 := Lib.hid o1
  have HX2 := Lib.hid o2
  clear o1 o2
  simp at q1 q2
  have g := blk_below (blk_new w (.cells #[.slice none 0 0, .slice none 0 0] 28)) hbel
  have m0 := blk_cell g 0
  have m1 := blk_cell g 1
  have m2 := blk_frozen g
  simp at m0 m1
  have HB := Lib.hid (bl_call (bl_alloc (Below.refl _ _) _) hbel)
  clear hbel g
  go_wp2_with fail
  refine bodyPost_ret (v := .agg #[.slice (some ⟨g1, 0, none⟩) 26 c1, .slice (some ⟨g2, 0, none⟩) 26 c2]) (by simp [results, Try.results23, go_sem, m0, m1]) rfl ⟨_, rfl, ⟨g1, g2, c1, c2, rfl, ⟨by omega, by omega, q3, q4, q5⟩, ?_, ?_, rfl, rfl⟩, ?_⟩
  · exact (HX1.out.far (by simp; omega) _).far (by simp; omega) _
  · exact (HX2.out.far (by simp; omega) _).far (by simp; omega) _
  · exact bl_set (bl_set HB.out (by simp) _) (by simp) _
def heapB : List Int := [0, 0, 1, 1, 0, 0, 0, 0, 0, 0, 0, 0, 1, 1, 0, 0, 0, 2, 0, 0, 0, 0, 0, 0, 0, 0]
def heapF : List Int := [0, 0, 1, 1, 0, 0, 0, 0, 0, 0, 0, 0, 1, 1, 0, 0, 0, 0, 0, 0, 0, 0, 0, 0, 0, 0]
set_option maxRecDepth 100000 in
set_option maxHeartbeats 2000000 in
theorem heap_own (w : World) : Calls Try.prog 25 #[] w fun e w' => ∃ r, e = .returned r ∧ RdO w' w.heap.size r heapB heapF ∧ Below w.heap.size w w' := by
  have HM := Lib.hid (made_own 0 0 1 1 0 0 0 0 0 0 0 0 1 1 0 0 0 2 0 0 0 0 0 0 0 0 0 0 1 1 0 0 0 0 0 0 0 0 1 1 0 0 0 0 0 0 0 0 0 0 0 0 (w.alloc (.cells #[.slice none 0 0, .slice none 0 0] 28)))
  go_enter Try.func25, Try.ntmps25
  go_wp2_with fail
  refine HM.out.mono ?_
  clear HM
  rintro e w1 ⟨r, rfl, ⟨g1, g2, c1, c2, rfl, ⟨q1, q2, q3, q4, q5⟩, o1, o2, _, _⟩, hbel⟩
  have HX1 := Lib.hid o1
  have HX2 := Lib.hid o2
  clear o1 o2
  simp at q1 q2
  have g := blk_below (blk_new w (.cells #[.slice none 0 0, .slice none 0 0] 28)) hbel
  have m0 := blk_cell g 0
  have m1 := blk_cell g 1
  have m2 := blk_frozen g
  simp at m0 m1
  have HB := Lib.hid (bl_call (bl_alloc (Below.refl _ _) _) hbel)
  clear hbel g
  go_wp2_with fail
  refine bodyPost_ret (v := .agg #[.slice (some ⟨g1, 0, none⟩) 26 c1, .slice (some ⟨g2, 0, none⟩) 26 c2]) (by simp [results, Try.results25, go_sem, m0, m1]) rfl ⟨_, rfl, ⟨g1, g2, c1, c2, rfl, ⟨by omega, by omega, q3, q4, q5⟩, ?_, ?_, rfl, rfl⟩, ?_⟩
  · exact (HX1.out.far (by simp; omega) _).far (by simp; omega) _
  · exact (HX2.out.far (by simp; omega) _).far (by simp; omega) _
  · exact bl_set (bl_set HB.out (by simp) _) (by simp) _
def ticksB : List Int := [0, 0, 0, 0, 0, 0, 0, 0, 0, 0, 0, 0, 0, 0, 0, 0, 0, 0, 0, 0, 1, 0, 0, 0, 0, 0]
def ticksF : List Int := [0, 0, 0, 0, 0, 0, 0, 0, 0, 0, 0, 0, 0, 0, 0, 0, 0, 0, 0, 0, 0, 0, 0, 0, 0, 0]
set_option maxRecDepth 100000 in
set_option maxHeartbeats 2000000 in
theorem ticks_own (w : World) : Calls Try.prog 27 #[] w fun e w' => ∃ r, e = .returned r ∧ RdO w' w.heap.size r ticksB ticksF ∧ Below w.heap.size w w' := by
  have HM := Lib.hid (made_own 0 0 0 0 0 0 0 0 0 0 0 0 0 0 0 0 0 0 0 0 1 0 0 0 0 0 0 0 0 0 0 0 0 0 0 0 0 0 0 0 0 0 0 0 0 0 0 0 0 0 0 0 (w.alloc (.cells #[.slice none 0 0, .slice none 0 0] 28)))
  go_enter Try.func27, Try.ntmps27
  go_wp2_with fail
  refine HM.out.mono ?_
  clear HM
  rintro e w1 ⟨r, rfl, ⟨g1, g2, c1, c2, rfl, ⟨q1, q2, q3, q4, q5⟩, o1, o2, _, _⟩, hbel⟩
  have HX1 := Lib.hid o1
  have HX2 := Lib.hid o2
  clear o1 o2
  simp at q1 q2
  have g := blk_below (blk_new w (.cells #[.slice none 0 0, .slice none 0 0] 28)) hbel
  have m0 := blk_cell g 0
  have m1 := blk_cell g 1
  have m2 := blk_frozen g
  simp at m0 m1
  have HB := Lib.hid (bl_call (bl_alloc (Below.refl _ _) _) hbel)
  clear hbel g
  go_wp2_with fail
  refine bodyPost_ret (v := .agg #[.slice (some ⟨g1, 0, none⟩) 26 c1, .slice (some ⟨g2, 0, none⟩) 26 c2]) (by simp [results, Try.results27, go_sem, m0, m1]) rfl ⟨_, rfl, ⟨g1, g2, c1, c2, rfl, ⟨by omega, by omega, q3, q4, q5⟩, ?_, ?_, rfl, rfl⟩, ?_⟩
  · exact (HX1.out.far (by simp; omega) _).far (by simp; omega) _
  · exact (HX2.out.far (by simp; omega) _).far (by simp; omega) _
  · exact bl_set (bl_set HB.out (by simp) _) (by simp) _
def freeB : List Int := [0, 0, 0, 0, 0, 0, 0, 0, 0, 0, 0, 0, 0, 0, 0, 0, 0, 0, 0, 0, 0, 0, 0, 0, 0, 0]
def freeF : List Int := [0, 0, 0, 0, 0, 0, 0, 0, 0, 0, 0, 0, 0, 0, 0, 0, 0, 0, 0, 0, 0, 0, 0, 0, 0, 0]
set_option maxRecDepth 100000 in
set_option maxHeartbeats 2000000 in
theorem free_own (w : World) : Calls Try.prog 28 #[] w fun e w' => ∃ r, e = .returned r ∧ RdO w' w.heap.size r freeB freeF ∧ Below w.heap.size w w' := by
  have HM := Lib.hid (made_own 0 0 0 0 0 0 0 0 0 0 0 0 0 0 0 0 0 0 0 0 0 0 0 0 0 0 0 0 0 0 0 0 0 0 0 0 0 0 0 0 0 0 0 0 0 0 0 0 0 0 0 0 (w.alloc (.cells #[.slice none 0 0, .slice none 0 0] 28)))
  go_enter Try.func28, Try.ntmps28
  go_wp2_with fail
  refine HM.out.mono ?_
  clear HM
  rintro e w1 ⟨r, rfl, ⟨g1, g2, c1, c2, rfl, ⟨q1, q2, q3, q4, q5⟩, o1, o2, _, _⟩, hbel⟩
  have HX1 := Lib.hid o1
  have HX2 := Lib.hid o2
  clear o1 o2
  simp at q1 q2
  have g := blk_below (blk_new w (.cells #[.slice none 0 0, .slice none 0 0] 28)) hbel
  have m0 := blk_cell g 0
  have m1 := blk_cell g 1
  have m2 := blk_frozen g
  simp at m0 m1
  have HB := Lib.hid (bl_call (bl_alloc (Below.refl _ _) _) hbel)
  clear hbel g
  go_wp2_with fail
  refine bodyPost_ret (v := .agg #[.slice (some ⟨g1, 0, none⟩) 26 c1, .slice (some ⟨g2, 0, none⟩) 26 c2]) (by simp [results, Try.results28, go_sem, m0, m1]) rfl ⟨_, rfl, ⟨g1, g2, c1, c2, rfl, ⟨by omega, by omega, q3, q4, q5⟩, ?_, ?_, rfl, rfl⟩, ?_⟩
  · exact (HX1.out.far (by simp; omega) _).far (by simp; omega) _
  · exact (HX2.out.far (by simp; omega) _).far (by simp; omega) _
  · exact bl_set (bl_set HB.out (by simp) _) (by simp) _
end Go.Proofs.Ytbfgnpbkgegegaa
