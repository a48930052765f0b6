import Derived.Test.YtbfgnpbkgegegaaQ2
import Derived.RegionTactic
import Derived.Deep.RegionHeld3
namespace Go.Proofs.Ytbfgnpbkgegegaa
open Go.RowKit
set_option linter.unusedSimpArgs false
set_option linter.unusedVariables false

theorem make_i64 (m : Nat) (hm : m ≤ 1073741824) (W : World) : (Instr.makeSlice 22 (.int .i64 (m : Int)) (.int .i64 (m : Int))).run Try.prog W = .ok (.slice (some ⟨W.heap.size, 0, none⟩) m m) (W.alloc (.cells ((List.replicate m 0).map (Value.int .i64)).toArray 2)) := by
  obtain ⟨i0, hi0, hz0, hz1, hz2⟩ := info_parts info2
  have h := run_make (P := Try.prog) W 22 2 i0 (.int .i64 0) Try.underlying22 hi0 hz0 .i64 .i64 (m : Int) (m : Int) (by omega) (Int.le_refl _) (by rw [hz2]; omega) (by omega)
  have e : madeCells (Value.cells (.int .i64 0)) (m * 1) = ((List.replicate m 0).map (Value.int .i64)).toArray := by
    apply Array.ext'
    apply List.ext_getElem
    · simp [madeCells]
    · intro i h1 h2
      simp [madeCells, Value.cells, Nat.mod_one]
  simp only [Int.toNat_natCast, hz1] at h
  rw [e] at h
  exact h
theorem make_26 (W : World) : (Instr.makeSlice 22 (.int .i64 26) (.int .i64 26)).run Try.prog W = .ok (.slice (some ⟨W.heap.size, 0, none⟩) 26 26) (W.alloc (.cells (freeB.map (Value.int .i64)).toArray 2)) :=
  make_i64 26 (by omega) W
theorem Own.lit {w : World} {g : Nat} {t : TypeId} {xs : List Int} (h : w.heap[g]? = some (.cells (xs.map (Value.int .i64)).toArray t (0, 0))) : Own w g xs :=
  ⟨_, t, h, fun j hj => by simp [List.getElem?_map, List.getElem?_eq_getElem hj, List.getD_eq_getElem?_getD]⟩
set_option maxRecDepth 100000 in
set_option maxHeartbeats 2000000 in
theorem rfree_own (w : World) : Calls Try.prog 35 #[] w fun e w' => ∃ r, e = .returned r ∧ RdO w' w.heap.size r freeB freeF ∧ Below w.heap.size w w' := by
  have hmk := make_26
  go_enter Try.func35, Try.ntmps35
  go_wp2
  go_region
  all_goals go_wp2
  · refine bodyPost_ret (v := .agg #[.slice (some ⟨w.heap.size + 1, 0, none⟩) 26 26, .slice (some ⟨w.heap.size + 1 + 1, 0, none⟩) 26 26]) (by simp [results, Try.results35, go_sem]) rfl ⟨_, rfl, ⟨_, _, 26, 26, rfl, ⟨by omega, by omega, by omega, by omega, by omega⟩, ?_, ?_, rfl, rfl⟩, ?_⟩
    · exact Own.lit (blk_alloc (blk_new' (by simp) _) _)
    · exact Own.lit (blk_new' (by simp) _)
    · exact bl_drew (bl_alloc (bl_alloc (bl_alloc (Below.refl _ _) _) _) _)
  · refine bodyPost_ret (v := .agg #[.slice (some ⟨w.heap.size + 1 + 1, 0, none⟩) 26 26, .slice (some ⟨w.heap.size + 1, 0, none⟩) 26 26]) (by simp [results, Try.results35, go_sem]) rfl ⟨_, rfl, ⟨_, _, 26, 26, rfl, ⟨by omega, by omega, by omega, by omega, by omega⟩, ?_, ?_, rfl, rfl⟩, ?_⟩
    · exact Own.lit (blk_new' (by simp) _)
    · exact Own.lit (blk_alloc (blk_new' (by simp) _) _)
    · exact bl_drew (bl_alloc (bl_alloc (bl_alloc (Below.refl _ _) _) _) _)
set_option maxRecDepth 100000 in
set_option maxHeartbeats 4000000 in
theorem rticks_own (w : World) : Calls Try.prog 34 #[] w fun e w' => ∃ r, e = .returned r ∧ RdO w' w.heap.size r ticksB ticksF ∧ Below w.heap.size w w' := by
  have HM := Lib.hid (rfree_own (w.alloc (.cells #[.slice none 0 0, .slice none 0 0] 28)))
  go_enter Try.func34, Try.ntmps34
  go_wp2_with fail
  refine HM.out.mono ?_
  clear HM
  rintro e w1 ⟨r, rfl, ⟨g1, g2, c1, c2, rfl, ⟨q1, q2, q3, q4, q5⟩, o1, o2, z1, z2⟩, hbel⟩
  simp at q1 q2
  have g := blk_below (blk_new w (.cells #[.slice none 0 0, .slice none 0 0] 28)) hbel
  have m0 := blk_cell g 0
  have m1 := blk_cell g 1
  have m2 := blk_frozen g
  simp at m0 m1
  have l1 := o1.lt
  have l2 := o2.lt
  have l0 := blk_lt g
  have no120 := o1.cell (i := 20) (by decide)
  have fo120 := o1.frozen 20
  have HG := Lib.hid g
  have HX1 := Lib.hid o1
  have HX2 := Lib.hid o2
  clear o1 o2 z1 z2
  have HB := Lib.hid (bl_call (bl_alloc (Below.refl _ _) _) hbel)
  clear hbel g
  go_wp2_with fail
  · refine bodyPost_ret (v := .agg #[.slice (some ⟨g1, 0, none⟩) 26 c1, .slice (some ⟨g2, 0, none⟩) 26 c2]) (by simp [results, Try.results34, go_sem, m0, m1, l0]) rfl ⟨_, rfl, ⟨g1, g2, c1, c2, rfl, ⟨by omega, by omega, q3, q4, q5⟩, ?_, ?_, rfl, rfl⟩, ?_⟩
    · first
        | (focus (have e9 : ticksB = (freeB.set 20 1) := rfl; rw [e9]; (repeat (first | (with_reducible exact HX1.out) | (with_reducible refine Own.alloc ?_ _) | (with_reducible refine Own.drew ?_) | (with_reducible refine Own.set ?_ (by decide) _) | (focus (with_reducible refine Own.far ?_ ?_ _; rotate_left; (focus (simp <;> omega))))))); done)
    · first
        | (focus (have e9 : ticksF = freeF := rfl; rw [e9]; (repeat (first | (with_reducible exact HX2.out) | (with_reducible refine Own.alloc ?_ _) | (with_reducible refine Own.drew ?_) | (with_reducible refine Own.set ?_ (by decide) _) | (focus (with_reducible refine Own.far ?_ ?_ _; rotate_left; (focus (simp <;> omega))))))); done)
    · repeat (first | exact HB.out | refine bl_alloc ?_ _ | refine bl_drew ?_ | refine bl_set ?_ (by simp <;> omega) _)
set_option maxRecDepth 100000 in
set_option maxHeartbeats 4000000 in
theorem rcalls_own (w : World) : Calls Try.prog 30 #[] w fun e w' => ∃ r, e = .returned r ∧ RdO w' w.heap.size r callsB callsF ∧ Below w.heap.size w w' := by
  have HM := Lib.hid (rfree_own (w.alloc (.cells #[.slice none 0 0, .slice none 0 0] 28)))
  go_enter Try.func30, Try.ntmps30
  go_wp2_with fail
  refine HM.out.mono ?_
  clear HM
  rintro e w1 ⟨r, rfl, ⟨g1, g2, c1, c2, rfl, ⟨q1, q2, q3, q4, q5⟩, o1, o2, z1, z2⟩, hbel⟩
  simp at q1 q2
  have g := blk_below (blk_new w (.cells #[.slice none 0 0, .slice none 0 0] 28)) hbel
  have m0 := blk_cell g 0
  have m1 := blk_cell g 1
  have m2 := blk_frozen g
  simp at m0 m1
  have l1 := o1.lt
  have l2 := o2.lt
  have l0 := blk_lt g
  have no19 := o1.cell (i := 9) (by decide)
  have fo19 := o1.frozen 9
  have no110 := o1.cell (i := 10) (by decide)
  have fo110 := o1.frozen 10
  have HG := Lib.hid g
  have HX1 := Lib.hid o1
  have HX2 := Lib.hid o2
  clear o1 o2 z1 z2
  have HB := Lib.hid (bl_call (bl_alloc (Below.refl _ _) _) hbel)
  clear hbel g
  go_wp2_with fail
  go_region
  all_goals go_wp2_with fail
  all_goals
    refine bodyPost_ret (v := .agg #[.slice (some ⟨g1, 0, none⟩) 26 c1, .slice (some ⟨g2, 0, none⟩) 26 c2]) (by simp [results, Try.results30, go_sem, m0, m1, l0]) rfl ⟨_, rfl, ⟨g1, g2, c1, c2, rfl, ⟨by omega, by omega, q3, q4, q5⟩, ?_, ?_, rfl, rfl⟩, ?_⟩
    · first
        | (focus (have e9 : callsB = ((freeB.set 9 1).set 10 1) := rfl; rw [e9]; (repeat (first | (with_reducible exact HX1.out) | (with_reducible refine Own.alloc ?_ _) | (with_reducible refine Own.drew ?_) | (with_reducible refine Own.set ?_ (by decide) _) | (focus (with_reducible refine Own.far ?_ ?_ _; rotate_left; (focus (simp <;> omega))))))); done)
        | (focus (have e9 : callsB = ((freeB.set 10 1).set 9 1) := rfl; rw [e9]; (repeat (first | (with_reducible exact HX1.out) | (with_reducible refine Own.alloc ?_ _) | (with_reducible refine Own.drew ?_) | (with_reducible refine Own.set ?_ (by decide) _) | (focus (with_reducible refine Own.far ?_ ?_ _; rotate_left; (focus (simp <;> omega))))))); done)
    · first
        | (focus (have e9 : callsF = freeF := rfl; rw [e9]; (repeat (first | (with_reducible exact HX2.out) | (with_reducible refine Own.alloc ?_ _) | (with_reducible refine Own.drew ?_) | (with_reducible refine Own.set ?_ (by decide) _) | (focus (with_reducible refine Own.far ?_ ?_ _; rotate_left; (focus (simp <;> omega))))))); done)
    · repeat (first | exact HB.out | refine bl_alloc ?_ _ | refine bl_drew ?_ | refine bl_set ?_ (by simp <;> omega) _)
set_option maxRecDepth 100000 in
set_option maxHeartbeats 4000000 in
theorem rstack_own (w : World) : Calls Try.prog 31 #[] w fun e w' => ∃ r, e = .returned r ∧ RdO w' w.heap.size r stackB stackF ∧ Below w.heap.size w w' := by
  have HM := Lib.hid (rcalls_own (w.alloc (.cells #[.slice none 0 0, .slice none 0 0] 28)))
  go_enter Try.func31, Try.ntmps31
  go_wp2_with fail
  refine HM.out.mono ?_
  clear HM
  rintro e w1 ⟨r, rfl, ⟨g1, g2, c1, c2, rfl, ⟨q1, q2, q3, q4, q5⟩, o1, o2, z1, z2⟩, hbel⟩
  simp at q1 q2
  have g := blk_below (blk_new w (.cells #[.slice none 0 0, .slice none 0 0] 28)) hbel
  have m0 := blk_cell g 0
  have m1 := blk_cell g 1
  have m2 := blk_frozen g
  simp at m0 m1
  have l1 := o1.lt
  have l2 := o2.lt
  have l0 := blk_lt g
  have no111 := o1.cell (i := 11) (by decide)
  have fo111 := o1.frozen 11
  have no125 := o1.cell (i := 25) (by decide)
  have fo125 := o1.frozen 25
  have HG := Lib.hid g
  have HX1 := Lib.hid o1
  have HX2 := Lib.hid o2
  clear o1 o2 z1 z2
  have HB := Lib.hid (bl_call (bl_alloc (Below.refl _ _) _) hbel)
  clear hbel g
  go_wp2_with fail
  go_region
  all_goals go_wp2_with fail
  all_goals
    refine bodyPost_ret (v := .agg #[.slice (some ⟨g1, 0, none⟩) 26 c1, .slice (some ⟨g2, 0, none⟩) 26 c2]) (by simp [results, Try.results31, go_sem, m0, m1, l0]) rfl ⟨_, rfl, ⟨g1, g2, c1, c2, rfl, ⟨by omega, by omega, q3, q4, q5⟩, ?_, ?_, rfl, rfl⟩, ?_⟩
    · first
        | (focus (have e9 : stackB = ((callsB.set 11 (-1)).set 25 (-1)) := rfl; rw [e9]; (repeat (first | (with_reducible exact HX1.out) | (with_reducible refine Own.alloc ?_ _) | (with_reducible refine Own.drew ?_) | (with_reducible refine Own.set ?_ (by decide) _) | (focus (with_reducible refine Own.far ?_ ?_ _; rotate_left; (focus (simp <;> omega))))))); done)
        | (focus (have e9 : stackB = ((callsB.set 25 (-1)).set 11 (-1)) := rfl; rw [e9]; (repeat (first | (with_reducible exact HX1.out) | (with_reducible refine Own.alloc ?_ _) | (with_reducible refine Own.drew ?_) | (with_reducible refine Own.set ?_ (by decide) _) | (focus (with_reducible refine Own.far ?_ ?_ _; rotate_left; (focus (simp <;> omega))))))); done)
    · first
        | (focus (have e9 : stackF = callsF := rfl; rw [e9]; (repeat (first | (with_reducible exact HX2.out) | (with_reducible refine Own.alloc ?_ _) | (with_reducible refine Own.drew ?_) | (with_reducible refine Own.set ?_ (by decide) _) | (focus (with_reducible refine Own.far ?_ ?_ _; rotate_left; (focus (simp <;> omega))))))); done)
    · repeat (first | exact HB.out | refine bl_alloc ?_ _ | refine bl_drew ?_ | refine bl_set ?_ (by simp <;> omega) _)
end Go.Proofs.Ytbfgnpbkgegegaa
