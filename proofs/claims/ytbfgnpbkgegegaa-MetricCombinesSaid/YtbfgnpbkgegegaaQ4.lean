import Derived.Test.YtbfgnpbkgegegaaQ3
namespace Go.Proofs.Ytbfgnpbkgegegaa
open Go.RowKit
set_option linter.unusedSimpArgs false
set_option linter.unusedVariables false

def rheapBK (k : Nat) : List Int := (([2, 3, 12, 13] : List Nat).take k).foldl (fun l s => l.set s 1) freeB
def rheapFK (k : Nat) : List Int := (([2, 3, 12, 13] : List Nat).take k).foldl (fun l s => l.set s 1) freeF
set_option maxRecDepth 100000 in
set_option maxHeartbeats 4000000 in
theorem rheap_own (w : World) : Calls Try.prog 32 #[] w fun e w' => ∃ r, e = .returned r ∧ RdO w' w.heap.size r heapB heapF ∧ Below w.heap.size w w' := by
  have HM := Lib.hid (rfree_own (w.alloc (.cells #[.slice none 0 0, .slice none 0 0] 28)))
  go_enter Try.func32, Try.ntmps32
  go_wp2_with fail
  refine HM.out.mono ?_
  clear HM
  rintro e w1 ⟨r, rfl, ⟨g1, g2, c1, c2, rfl, ⟨q1, q2, q3, q4, q5⟩, o1, o2, z1, z2⟩, hbel⟩
  simp at q1 q2
  have g := blk_below (blk_new w (.cells #[.slice none 0 0, .slice none 0 0] 28)) hbel
  have m0 := blk_cell g 0
  have m1 := blk_cell g 1
  have m2 := blk_frozen g
  simp at m0 m1
  have l1 := o1.lt
  have l2 := o2.lt
  have l0 := blk_lt g
  have HG := Lib.hid g
  have HX1 := Lib.hid o1
  have HX2 := Lib.hid o2
  clear o1 o2 z1 z2
  have HB := Lib.hid (bl_call (bl_alloc (Below.refl _ _) _) hbel)
  clear hbel g
  have q2' : g1 ≠ w.heap.size := by omega
  have q3' : g2 ≠ w.heap.size := by omega
  go_wp2_with fail
  go_loopw [3, 7] (fun _ i wr => ∃ k : Nat, k ≤ 4 ∧ i = .int .i64 k ∧ Below w.heap.size w wr ∧ wr.heap[w.heap.size]? = some (.cells #[.slice none 0 0, .slice none 0 0] 28 (0, 0)) ∧ wr.heap[w1.heap.size]? = some (.cells #[.slice (some ⟨g1, 0, none⟩) 26 c1, .slice (some ⟨g2, 0, none⟩) 26 c2] 28 (0, 0)) ∧ wr.heap[w1.heap.size + 1]? = some (.cells #[.int .i64 2, .int .i64 3, .int .i64 12, .int .i64 13] 3 (0, 0)) ∧ Own wr g1 (rheapBK k) ∧ Own wr g2 (rheapFK k)) (fun _ i _ => 4 - (intOf i).toNat)
  case atStart => exact ⟨0, Nat.zero_le _, rfl, bl_alloc (bl_alloc HB.out _) _, blk_alloc (blk_alloc HG.out _) _, blk_alloc (blk_new _ _) _, blk_new' (by simp) _, (HX1.out.alloc _).alloc _, (HX2.out.alloc _).alloc _⟩
  case round =>
    obtain ⟨k, hk, rfl, hb, g0, gm, gl, o1, o2⟩ := hrel
    clear m0 m1 m2
    have m0 := blk_cell g0 0
    have m1 := blk_cell g0 1
    have m2 := blk_frozen g0
    have p0 := blk_cell gm 0
    have p1 := blk_cell gm 1
    have t0 := blk_cell gl 0
    have t1 := blk_cell gl 1
    have t2 := blk_cell gl 2
    have t3 := blk_cell gl 3
    simp at m0 m1 p0 p1 t0 t1 t2 t3
    have l9 := blk_lt g0
    have l8 := blk_lt gl
    have HB' := Lib.hid hb
    have HG0 := Lib.hid g0
    have HGM := Lib.hid gm
    have HGL := Lib.hid gl
    have HX1' := Lib.hid o1
    have HX2' := Lib.hid o2
    clear hb g0 gm gl
    rcases (show k = 0 ∨ k = 1 ∨ k = 2 ∨ k = 3 ∨ k = 4 by omega) with rfl | rfl | rfl | rfl | rfl
    · have n1 := o1.cell (i := 2) (by decide)
      have f1 := o1.frozen 2
      have n2 := o2.cell (i := 2) (by decide)
      have f2 := o2.frozen 2
      clear o1 o2
      go_wp2_with fail
      go_region
      all_goals go_wp2_with fail
      all_goals go_roundw
      all_goals first
        | (simp [intOf]; done)
        | (refine ⟨1, by omega, by first | rfl | go_num, by repeat (first | exact HB'.out | refine bl_drew ?_ | refine bl_set ?_ (by simp; omega) _), by first | exact blk_far (blk_far HG0.out (by simp; omega) _) (by simp; omega) _, by first | exact blk_far (blk_far HGM.out (by simp; omega) _) (by simp; omega) _, by first | exact blk_far (blk_far HGL.out (by simp; omega) _) (by simp; omega) _, ?_, ?_⟩
           · show Own _ g1 ((rheapBK 0).set 2 1)
             first | exact (HX1'.out.set (i := 2) (by decide) _).far (by simp; omega) _ | exact (HX1'.out.far (by simp; omega) _).set (i := 2) (by decide) _
           · show Own _ g2 ((rheapFK 0).set 2 1)
             first | exact (HX2'.out.set (i := 2) (by decide) _).far (by simp; omega) _ | exact (HX2'.out.far (by simp; omega) _).set (i := 2) (by decide) _)
    · have n1 := o1.cell (i := 3) (by decide)
      have f1 := o1.frozen 3
      have n2 := o2.cell (i := 3) (by decide)
      have f2 := o2.frozen 3
      clear o1 o2
      go_wp2_with fail
      go_region
      all_goals go_wp2_with fail
      all_goals go_roundw
      all_goals first
        | (simp [intOf]; done)
        | (refine ⟨2, by omega, by first | rfl | go_num, by repeat (first | exact HB'.out | refine bl_drew ?_ | refine bl_set ?_ (by simp; omega) _), by first | exact blk_far (blk_far HG0.out (by simp; omega) _) (by simp; omega) _, by first | exact blk_far (blk_far HGM.out (by simp; omega) _) (by simp; omega) _, by first | exact blk_far (blk_far HGL.out (by simp; omega) _) (by simp; omega) _, ?_, ?_⟩
           · show Own _ g1 ((rheapBK 1).set 3 1)
             first | exact (HX1'.out.set (i := 3) (by decide) _).far (by simp; omega) _ | exact (HX1'.out.far (by simp; omega) _).set (i := 3) (by decide) _
           · show Own _ g2 ((rheapFK 1).set 3 1)
             first | exact (HX2'.out.set (i := 3) (by decide) _).far (by simp; omega) _ | exact (HX2'.out.far (by simp; omega) _).set (i := 3) (by decide) _)
    · have n1 := o1.cell (i := 12) (by decide)
      have f1 := o1.frozen 12
      have n2 := o2.cell (i := 12) (by decide)
      have f2 := o2.frozen 12
      clear o1 o2
      go_wp2_with fail
      go_region
      all_goals go_wp2_with fail
      all_goals go_roundw
      all_goals first
        | (simp [intOf]; done)
        | (refine ⟨3, by omega, by first | rfl | go_num, by repeat (first | exact HB'.out | refine bl_drew ?_ | refine bl_set ?_ (by simp; omega) _), by first | exact blk_far (blk_far HG0.out (by simp; omega) _) (by simp; omega) _, by first | exact blk_far (blk_far HGM.out (by simp; omega) _) (by simp; omega) _, by first | exact blk_far (blk_far HGL.out (by simp; omega) _) (by simp; omega) _, ?_, ?_⟩
           · show Own _ g1 ((rheapBK 2).set 12 1)
             first | exact (HX1'.out.set (i := 12) (by decide) _).far (by simp; omega) _ | exact (HX1'.out.far (by simp; omega) _).set (i := 12) (by decide) _
           · show Own _ g2 ((rheapFK 2).set 12 1)
             first | exact (HX2'.out.set (i := 12) (by decide) _).far (by simp; omega) _ | exact (HX2'.out.far (by simp; omega) _).set (i := 12) (by decide) _)
    · have n1 := o1.cell (i := 13) (by decide)
      have f1 := o1.frozen 13
      have n2 := o2.cell (i := 13) (by decide)
      have f2 := o2.frozen 13
      clear o1 o2
      go_wp2_with fail
      go_region
      all_goals go_wp2_with fail
      all_goals go_roundw
      all_goals first
        | (simp [intOf]; done)
        | (refine ⟨4, by omega, by first | rfl | go_num, by repeat (first | exact HB'.out | refine bl_drew ?_ | refine bl_set ?_ (by simp; omega) _), by first | exact blk_far (blk_far HG0.out (by simp; omega) _) (by simp; omega) _, by first | exact blk_far (blk_far HGM.out (by simp; omega) _) (by simp; omega) _, by first | exact blk_far (blk_far HGL.out (by simp; omega) _) (by simp; omega) _, ?_, ?_⟩
           · show Own _ g1 ((rheapBK 3).set 13 1)
             first | exact (HX1'.out.set (i := 13) (by decide) _).far (by simp; omega) _ | exact (HX1'.out.far (by simp; omega) _).set (i := 13) (by decide) _
           · show Own _ g2 ((rheapFK 3).set 13 1)
             first | exact (HX2'.out.set (i := 13) (by decide) _).far (by simp; omega) _ | exact (HX2'.out.far (by simp; omega) _).set (i := 13) (by decide) _)
    · have n1 := o1.cell (i := 17) (by decide)
      have f1 := o1.frozen 17
      clear o1 o2
      go_wp2_with fail
      refine bodyPost_ret (v := .agg #[.slice (some ⟨g1, 0, none⟩) 26 c1, .slice (some ⟨g2, 0, none⟩) 26 c2]) (by simp [results, Try.results32, go_sem, m0, m1, l0, l9]) rfl ⟨_, rfl, ⟨g1, g2, c1, c2, rfl, ⟨by omega, by omega, q3, q4, q5⟩, ?_, ?_, rfl, rfl⟩, ?_⟩
      · first
        | (focus (have e9 : heapB = ((rheapBK 4).set 17 2) := rfl; rw [e9]; (repeat (first | (with_reducible exact HX1'.out) | (with_reducible refine Own.alloc ?_ _) | (with_reducible refine Own.drew ?_) | (with_reducible refine Own.set ?_ (by decide) _) | (focus (with_reducible refine Own.far ?_ ?_ _; rotate_left; (focus (simp <;> omega))))))); done)
      · first
        | (focus (have e9 : heapF = (rheapFK 4) := rfl; rw [e9]; (repeat (first | (with_reducible exact HX2'.out) | (with_reducible refine Own.alloc ?_ _) | (with_reducible refine Own.drew ?_) | (with_reducible refine Own.set ?_ (by decide) _) | (focus (with_reducible refine Own.far ?_ ?_ _; rotate_left; (focus (simp <;> omega))))))); done)
      · repeat (first | exact HB'.out | refine bl_alloc ?_ _ | refine bl_drew ?_ | refine bl_set ?_ (by simp <;> omega) _)
def garbageB : List Int := [0, 0, 1, 1, (-1), (-1), 0, 0, 0, 0, 0, 0, 1, 1, 0, 0, 0, 2, 0, 0, 0, 0, 0, 0, 0, 0]
def garbageF : List Int := [0, 0, 1, 1, (-1), (-1), 0, 0, 0, 0, 0, 0, 1, 1, 0, 0, 0, 0, 0, 0, 0, 0, 0, 0, 0, 0]
def rgarbageBK (k : Nat) : List Int := (([5, 4] : List Nat).take k).foldl (fun l s => l.set s (-1)) heapB
def rgarbageFK (k : Nat) : List Int := (([5, 4] : List Nat).take k).foldl (fun l s => l.set s (-1)) heapF
set_option maxRecDepth 100000 in
set_option maxHeartbeats 4000000 in
theorem rgarbage_own (w : World) : Calls Try.prog 33 #[] w fun e w' => ∃ r, e = .returned r ∧ RdO w' w.heap.size r garbageB garbageF ∧ Below w.heap.size w w' := by
  have HM := Lib.hid (rheap_own (w.alloc (.cells #[.slice none 0 0, .slice none 0 0] 28)))
  go_enter Try.func33, Try.ntmps33
  go_wp2_with fail
  refine HM.out.mono ?_
  clear HM
  rintro e w1 ⟨r, rfl, ⟨g1, g2, c1, c2, rfl, ⟨q1, q2, q3, q4, q5⟩, o1, o2, z1, z2⟩, hbel⟩
  simp at q1 q2
  have g := blk_below (blk_new w (.cells #[.slice none 0 0, .slice none 0 0] 28)) hbel
  have m0 := blk_cell g 0
  have m1 := blk_cell g 1
  have m2 := blk_frozen g
  simp at m0 m1
  have l1 := o1.lt
  have l2 := o2.lt
  have l0 := blk_lt g
  have HG := Lib.hid g
  have HX1 := Lib.hid o1
  have HX2 := Lib.hid o2
  clear o1 o2 z1 z2
  have HB := Lib.hid (bl_call (bl_alloc (Below.refl _ _) _) hbel)
  clear hbel g
  have q2' : g1 ≠ w.heap.size := by omega
  have q3' : g2 ≠ w.heap.size := by omega
  go_wp2_with fail
  go_loopw [3, 7] (fun _ i wr => ∃ k : Nat, k ≤ 2 ∧ i = .int .i64 k ∧ Below w.heap.size w wr ∧ wr.heap[w.heap.size]? = some (.cells #[.slice none 0 0, .slice none 0 0] 28 (0, 0)) ∧ wr.heap[w1.heap.size]? = some (.cells #[.slice (some ⟨g1, 0, none⟩) 26 c1, .slice (some ⟨g2, 0, none⟩) 26 c2] 28 (0, 0)) ∧ wr.heap[w1.heap.size + 1]? = some (.cells #[.int .i64 5, .int .i64 4] 3 (0, 0)) ∧ Own wr g1 (rgarbageBK k) ∧ Own wr g2 (rgarbageFK k)) (fun _ i _ => 2 - (intOf i).toNat)
  case atStart => exact ⟨0, Nat.zero_le _, rfl, bl_alloc (bl_alloc HB.out _) _, blk_alloc (blk_alloc HG.out _) _, blk_alloc (blk_new _ _) _, blk_new' (by simp) _, (HX1.out.alloc _).alloc _, (HX2.out.alloc _).alloc _⟩
  case round =>
    obtain ⟨k, hk, rfl, hb, g0, gm, gl, o1, o2⟩ := hrel
    clear m0 m1 m2
    have m0 := blk_cell g0 0
    have m1 := blk_cell g0 1
    have m2 := blk_frozen g0
    have p0 := blk_cell gm 0
    have p1 := blk_cell gm 1
    have t0 := blk_cell gl 0
    have t1 := blk_cell gl 1
    simp at m0 m1 p0 p1 t0 t1
    have l9 := blk_lt g0
    have l8 := blk_lt gl
    have HB' := Lib.hid hb
    have HG0 := Lib.hid g0
    have HGM := Lib.hid gm
    have HGL := Lib.hid gl
    have HX1' := Lib.hid o1
    have HX2' := Lib.hid o2
    clear hb g0 gm gl
    rcases (show k = 0 ∨ k = 1 ∨ k = 2 by omega) with rfl | rfl | rfl
    · have n1 := o1.cell (i := 5) (by decide)
      have f1 := o1.frozen 5
      have n2 := o2.cell (i := 5) (by decide)
      have f2 := o2.frozen 5
      clear o1 o2
      go_wp2_with fail
      go_region
      all_goals go_wp2_with fail
      all_goals go_roundw
      all_goals first
        | (simp [intOf]; done)
        | (refine ⟨1, by omega, by first | rfl | go_num, by repeat (first | exact HB'.out | refine bl_drew ?_ | refine bl_set ?_ (by simp; omega) _), by first | exact blk_far (blk_far HG0.out (by simp; omega) _) (by simp; omega) _, by first | exact blk_far (blk_far HGM.out (by simp; omega) _) (by simp; omega) _, by first | exact blk_far (blk_far HGL.out (by simp; omega) _) (by simp; omega) _, ?_, ?_⟩
           · show Own _ g1 ((rgarbageBK 0).set 5 (-1))
             first | exact (HX1'.out.set (i := 5) (by decide) _).far (by simp; omega) _ | exact (HX1'.out.far (by simp; omega) _).set (i := 5) (by decide) _
           · show Own _ g2 ((rgarbageFK 0).set 5 (-1))
             first | exact (HX2'.out.set (i := 5) (by decide) _).far (by simp; omega) _ | exact (HX2'.out.far (by simp; omega) _).set (i := 5) (by decide) _)
    · have n1 := o1.cell (i := 4) (by decide)
      have f1 := o1.frozen 4
      have n2 := o2.cell (i := 4) (by decide)
      have f2 := o2.frozen 4
      clear o1 o2
      go_wp2_with fail
      go_region
      all_goals go_wp2_with fail
      all_goals go_roundw
      all_goals first
        | (simp [intOf]; done)
        | (refine ⟨2, by omega, by first | rfl | go_num, by repeat (first | exact HB'.out | refine bl_drew ?_ | refine bl_set ?_ (by simp; omega) _), by first | exact blk_far (blk_far HG0.out (by simp; omega) _) (by simp; omega) _, by first | exact blk_far (blk_far HGM.out (by simp; omega) _) (by simp; omega) _, by first | exact blk_far (blk_far HGL.out (by simp; omega) _) (by simp; omega) _, ?_, ?_⟩
           · show Own _ g1 ((rgarbageBK 1).set 4 (-1))
             first | exact (HX1'.out.set (i := 4) (by decide) _).far (by simp; omega) _ | exact (HX1'.out.far (by simp; omega) _).set (i := 4) (by decide) _
           · show Own _ g2 ((rgarbageFK 1).set 4 (-1))
             first | exact (HX2'.out.set (i := 4) (by decide) _).far (by simp; omega) _ | exact (HX2'.out.far (by simp; omega) _).set (i := 4) (by decide) _)
    · clear o1 o2
      go_wp2_with fail
      refine bodyPost_ret (v := .agg #[.slice (some ⟨g1, 0, none⟩) 26 c1, .slice (some ⟨g2, 0, none⟩) 26 c2]) (by simp [results, Try.results33, go_sem, m0, m1, l0, l9]) rfl ⟨_, rfl, ⟨g1, g2, c1, c2, rfl, ⟨by omega, by omega, q3, q4, q5⟩, ?_, ?_, rfl, rfl⟩, ?_⟩
      · first
        | (focus (have e9 : garbageB = (rgarbageBK 2) := rfl; rw [e9]; (repeat (first | (with_reducible exact HX1'.out) | (with_reducible refine Own.alloc ?_ _) | (with_reducible refine Own.drew ?_) | (with_reducible refine Own.set ?_ (by decide) _) | (focus (with_reducible refine Own.far ?_ ?_ _; rotate_left; (focus (simp <;> omega))))))); done)
      · first
        | (focus (have e9 : garbageF = (rgarbageFK 2) := rfl; rw [e9]; (repeat (first | (with_reducible exact HX2'.out) | (with_reducible refine Own.alloc ?_ _) | (with_reducible refine Own.drew ?_) | (with_reducible refine Own.set ?_ (by decide) _) | (focus (with_reducible refine Own.far ?_ ?_ _; rotate_left; (focus (simp <;> omega))))))); done)
      · repeat (first | exact HB'.out | refine bl_alloc ?_ _ | refine bl_drew ?_ | refine bl_set ?_ (by simp <;> omega) _)
end Go.Proofs.Ytbfgnpbkgegegaa
