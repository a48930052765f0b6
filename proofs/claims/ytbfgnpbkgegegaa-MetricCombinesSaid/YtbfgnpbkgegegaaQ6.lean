import Derived.Test.YtbfgnpbkgegegaaQ4
import Derived.Deep.Cut
namespace Go.Proofs.Ytbfgnpbkgegegaa
open Go.RowKit
set_option linter.unusedSimpArgs false
set_option linter.unusedVariables false

def timeB : List Int := [1, 1, 1, 1, 1, 1, 1, 1, 1, 1, 1, 1, 1, 1, 1, 1, 1, 1, 1, 1, 0, 1, 1, 1, 0, 0]
def timeF : List Int := [0, 0, 0, 0, 0, 0, 0, 0, 0, 0, 0, 0, 0, 0, 0, 0, 0, 0, 0, 0, 0, 0, 0, 0, 0, 0]
def timeK : Nat → List Int
  | 0 => freeB
  | k + 1 => if k = 24 ∨ k = 25 ∨ k = 20 then timeK k else (timeK k).set k 1
theorem timeK_len (k : Nat) : (timeK k).length = 26 := by
  induction k with
  | zero => rfl
  | succ k ih => unfold timeK; split <;> simp [ih]
theorem timeK_no {k : Nat} (h : ¬ (k = 24 ∨ k = 25 ∨ k = 20)) : timeK (k + 1) = (timeK k).set k 1 := by rw [timeK, if_neg h]
theorem timeK_end : timeK 26 = timeB := by decide
def onesK : Nat → List Int
  | 0 => freeB
  | k + 1 => (onesK k).set k 1
theorem onesK_len (k : Nat) : (onesK k).length = 26 := by
  induction k with
  | zero => rfl
  | succ k ih => unfold onesK; simp [ih]
def ArrT (w : World) (g : Nat) (zs : List Int) : Prop := w.heap[g]? = some (.cells (zs.map (Value.int .i64)).toArray 49 (0, 0))
theorem ArrT.set {w : World} {g : Nat} {zs : List Int} (h : ArrT w g zs) (i : Nat) (x : Int) : ArrT (w.setCell ⟨g, i, none⟩ (.int .i64 x)) g (zs.set i x) := by
  have h2 := blk_set h i (.int .i64 x)
  unfold ArrT
  rw [h2, List.map_set]
  simp
theorem ArrT.own {w : World} {g : Nat} {zs : List Int} (h : ArrT w g zs) : Own w g zs := Own.lit h
def onesE : List Int := [1, 1, 1, 1, 1, 1, 1, 1, 1, 1, 1, 1, 1, 1, 1, 1, 1, 1, 1, 1, 1, 1, 1, 1, 1, 1]
theorem onesK_end : onesK 26 = onesE := by decide
set_option maxRecDepth 100000 in
set_option maxHeartbeats 4000000 in
theorem rtime_own (w : World) : Calls Try.prog 29 #[] w fun e w' => ∃ r, e = .returned r ∧ RdO w' w.heap.size r timeB timeF ∧ Below w.heap.size w w' := by
  have HM := Lib.hid (rfree_own (w.alloc (.cells #[.slice none 0 0, .slice none 0 0] 28)))
  go_enter Try.func29, Try.ntmps29
  go_wp2_with fail
  refine HM.out.mono ?_
  clear HM
  rintro e w1 ⟨r, rfl, ⟨g1, g2, c1, c2, rfl, ⟨q1, q2, q3, q4, q5⟩, o1, o2, z1, z2⟩, hbel⟩
  simp at q1 q2
  have g := blk_below (blk_new w (.cells #[.slice none 0 0, .slice none 0 0] 28)) hbel
  have m0 := blk_cell g 0
  have m1 := blk_cell g 1
  have m2 := blk_frozen g
  simp at m0 m1
  have l1 := o1.lt
  have l2 := o2.lt
  have l0 := blk_lt g
  have HG := Lib.hid g
  have HX1 := Lib.hid o1
  have HX2 := Lib.hid o2
  clear o1 o2 z1 z2
  have HB := Lib.hid (bl_call (bl_alloc (Below.refl _ _) _) hbel)
  clear hbel g
  have q2' : g1 ≠ w.heap.size := by omega
  have q3' : g2 ≠ w.heap.size := by omega
  go_wp2_with fail
  go_loopw [2] (fun i wr => ∃ k : Nat, k ≤ 26 ∧ i = .int .i64 k ∧ Below w.heap.size w wr ∧ wr.heap[w.heap.size]? = some (.cells #[.slice none 0 0, .slice none 0 0] 28 (0, 0)) ∧ wr.heap[w1.heap.size]? = some (.cells #[.slice (some ⟨g1, 0, none⟩) 26 c1, .slice (some ⟨g2, 0, none⟩) 26 c2] 28 (0, 0)) ∧ Own wr g1 (timeK k) ∧ Own wr g2 freeF) (fun i _ => 26 - (intOf i).toNat)
  case atStart => exact ⟨0, Nat.zero_le _, rfl, bl_alloc HB.out _, blk_alloc HG.out _, blk_new _ _, HX1.out.alloc _, HX2.out.alloc _⟩
  case round =>
    obtain ⟨k, hk, rfl, hb, g0, gm, o1, o2⟩ := hrel
    clear m0 m1 m2
    have m0 := blk_cell g0 0
    have m1 := blk_cell g0 1
    have m2 := blk_frozen g0
    have p0 := blk_cell gm 0
    have p1 := blk_cell gm 1
    simp at m0 m1 p0 p1
    have l9 := blk_lt g0
    have l8 := blk_lt gm
    have HB' := Lib.hid hb
    have HG0 := Lib.hid g0
    have HGM := Lib.hid gm
    have HX1' := Lib.hid o1
    have HX2' := Lib.hid o2
    clear hb g0 gm
    by_cases hlt : k < 26
    · by_cases hs : k = 24 ∨ k = 25 ∨ k = 20
      · clear o1 o2
        have hki : (k : Int) < 26 := by omega
        rcases hs with rfl | rfl | rfl
        all_goals (go_wp2_with fail; go_roundw)
        all_goals first
          | (simp [intOf]; done)
          | exact ⟨25, by omega, by first | rfl | go_num, HB'.out, HG0.out, HGM.out, HX1'.out, HX2'.out⟩
          | exact ⟨26, by omega, by first | rfl | go_num, HB'.out, HG0.out, HGM.out, HX1'.out, HX2'.out⟩
          | exact ⟨21, by omega, by first | rfl | go_num, HB'.out, HG0.out, HGM.out, HX1'.out, HX2'.out⟩
      · have e9 := Lib.hid (timeK_no hs)
        have n1 := o1.cell (i := k) (by rw [timeK_len]; exact hlt)
        have f1 := o1.frozen k
        have s1 : ¬ (k : Int) = 24 := by omega
        have s2 : ¬ (k : Int) = 25 := by omega
        have s3 : ¬ (k : Int) = 20 := by omega
        have s4 : ¬ k = 24 := by omega
        have s5 : ¬ k = 25 := by omega
        have s6 : ¬ k = 20 := by omega
        have hki : (k : Int) < 26 := by omega
        clear o1 o2 hs
        go_wp2_with fail
        all_goals first
          | (exfalso; omega)
          | (exfalso; rename_i h9; simp at h9; omega)
          | (go_roundw
             case measure => simp [intOf]; omega
             case rel =>
               refine ⟨k + 1, by omega, by go_num, bl_set HB'.out (by simp; omega) _, blk_far HG0.out (by simp; omega) _, blk_far HGM.out (by simp; omega) _, ?_, HX2'.out.far (by simp; omega) _⟩
               rw [e9.out]
               exact HX1'.out.set (by rw [timeK_len]; exact hlt) _)
    · obtain rfl : k = 26 := by omega
      clear o1 o2
      rw [timeK_end] at HX1'
      go_wp2_with fail
      refine bodyPost_ret (v := .agg #[.slice (some ⟨g1, 0, none⟩) 26 c1, .slice (some ⟨g2, 0, none⟩) 26 c2]) (by simp [results, Try.results29, go_sem, m0, m1, l0, l9]) rfl ⟨_, rfl, ⟨g1, g2, c1, c2, rfl, ⟨by omega, by omega, q3, q4, q5⟩, ?_, ?_, rfl, rfl⟩, ?_⟩
      · first
        | (focus (have e9 : timeB = timeB := rfl; rw [e9]; (repeat (first | (with_reducible exact HX1'.out) | (with_reducible refine Own.alloc ?_ _) | (with_reducible refine Own.drew ?_) | (with_reducible refine Own.set ?_ (by decide) _) | (focus (with_reducible refine Own.far ?_ ?_ _; rotate_left; (focus (simp <;> omega))))))); done)
      · first
        | (focus (have e9 : timeF = freeF := rfl; rw [e9]; (repeat (first | (with_reducible exact HX2'.out) | (with_reducible refine Own.alloc ?_ _) | (with_reducible refine Own.drew ?_) | (with_reducible refine Own.set ?_ (by decide) _) | (focus (with_reducible refine Own.far ?_ ?_ _; rotate_left; (focus (simp <;> omega))))))); done)
      · repeat (first | exact HB'.out | refine bl_alloc ?_ _ | refine bl_drew ?_ | refine bl_set ?_ (by simp <;> omega) _)
set_option maxRecDepth 100000 in
set_option maxHeartbeats 4000000 in
theorem time_own (w : World) : Calls Try.prog 22 #[] w fun e w' => ∃ r, e = .returned r ∧ RdO w' w.heap.size r timeB timeF ∧ Below w.heap.size w w' := by
  go_enter Try.func22, Try.ntmps22
  go_wp2_with fail
  go_loopw [2, 3] (fun _ i wr => ∃ k : Nat, k ≤ 26 ∧ i = .int .i64 k ∧ Below w.heap.size w wr ∧ wr.heap[w.heap.size]? = some (.cells #[.slice none 0 0, .slice none 0 0] 28 (0, 0)) ∧ ArrT wr (w.heap.size + 1) (onesK k)) (fun _ i _ => 26 - (intOf i).toNat)
  case atStart => exact ⟨0, Nat.zero_le _, rfl, bl_alloc (bl_alloc (Below.refl _ _) _) _, blk_alloc (blk_new _ _) _, show ArrT _ _ freeB from blk_new' (by simp) _⟩
  case round =>
    obtain ⟨k, hk, rfl, hb, g0, o1⟩ := hrel
    have l9 := blk_lt g0
    have l8 := blk_lt o1
    have HB' := Lib.hid hb
    have HG0 := Lib.hid g0
    have HX1' := Lib.hid o1
    clear hb g0
    by_cases hlt : k < 26
    · have n1 := o1.own.cell (i := k) (by rw [onesK_len]; exact hlt)
      have f1 := o1.own.frozen k
      have hki : (k : Int) < 26 := by omega
      clear o1
      go_wp2_with fail
      all_goals first
        | (exfalso; omega)
        | (go_roundw
           case measure => simp [intOf]; omega
           case rel => exact ⟨k + 1, by omega, by go_num, bl_set HB'.out (by simp) _, blk_far HG0.out (by simp) _, HX1'.out.set k 1⟩)
    · obtain rfl : k = 26 := by omega
      rw [onesK_end] at o1 HX1'
      have n24 := o1.own.cell (i := 24) (by decide)
      have n25 := o1.own.cell (i := 25) (by decide)
      have n20 := o1.own.cell (i := 20) (by decide)
      have f24 := o1.own.frozen 24
      have f25 := o1.own.frozen 25
      have f20 := o1.own.frozen 20
      clear o1
      go_upto_region 8 with (fail)
      obtain ⟨W, hW⟩ : ∃ W, W = ((wr.setCell ⟨w.heap.size + 1, 24, none⟩ (.int .i64 0)).setCell ⟨w.heap.size + 1, 25, none⟩ (.int .i64 0)).setCell ⟨w.heap.size + 1, 20, none⟩ (.int .i64 0) := ⟨_, rfl⟩
      have oW : ArrT W (w.heap.size + 1) timeB := by
        have e9 : timeB = ((onesE.set 24 0).set 25 0).set 20 0 := by decide
        rw [hW, e9]
        exact ((HX1'.out.set 24 0).set 25 0).set 20 0
      have gW : W.heap[w.heap.size]? = some (.cells #[.slice none 0 0, .slice none 0 0] 28 (0, 0)) := by
        rw [hW]; exact blk_far (blk_far (blk_far HG0.out (by simp) _) (by simp) _) (by simp) _
      have HBW : Below w.heap.size w W := by
        rw [hW]; exact bl_set (bl_set (bl_set HB'.out (by simp) _) (by simp) _) (by simp) _
      rw [← hW]
      have lW := blk_lt oW
      have HAW := Lib.hid (show W.heap[w.heap.size + 1]? = some (.cells #[.int .i64 1, .int .i64 1, .int .i64 1, .int .i64 1, .int .i64 1, .int .i64 1, .int .i64 1, .int .i64 1, .int .i64 1, .int .i64 1, .int .i64 1, .int .i64 1, .int .i64 1, .int .i64 1, .int .i64 1, .int .i64 1, .int .i64 1, .int .i64 1, .int .i64 1, .int .i64 1, .int .i64 0, .int .i64 1, .int .i64 1, .int .i64 1, .int .i64 0, .int .i64 0] 49 (0, 0)) from oW)
      have HGW := Lib.hid gW
      have HBW' := Lib.hid HBW
      clear n24 n25 n20 f24 f25 f20 HX1' HB' HG0 l9 l8 hW gW HBW
      clear oW
      go_wp2_with (refine wpList_load_row rfl 49 _ rfl (w.heap.size + 1) rfl 49 #[.int .i64 1, .int .i64 1, .int .i64 1, .int .i64 1, .int .i64 1, .int .i64 1, .int .i64 1, .int .i64 1, .int .i64 1, .int .i64 1, .int .i64 1, .int .i64 1, .int .i64 1, .int .i64 1, .int .i64 1, .int .i64 1, .int .i64 1, .int .i64 1, .int .i64 1, .int .i64 1, .int .i64 0, .int .i64 1, .int .i64 1, .int .i64 1, .int .i64 0, .int .i64 0] (0, 0) _ HAW.out Try.underlying49 rfl (by kernel_rfl) ?_)
      refine (made_own 1 1 1 1 1 1 1 1 1 1 1 1 1 1 1 1 1 1 1 1 0 1 1 1 0 0 0 0 0 0 0 0 0 0 0 0 0 0 0 0 0 0 0 0 0 0 0 0 0 0 0 0 _).mono ?_
      rintro e w2 ⟨r, rfl, ⟨g1, g2, c1, c2, rfl, ⟨q1, q2, q3, q4, q5⟩, o1, o2, _, _⟩, hbel⟩
      have HX1 := Lib.hid o1
      have HX2 := Lib.hid o2
      clear o1 o2
      have g := blk_below HGW.out hbel
      have m0 := blk_cell g 0
      have m1 := blk_cell g 1
      have m2 := blk_frozen g
      simp at m0 m1
      have HB := Lib.hid (bl_call HBW'.out hbel)
      clear hbel g
      go_wp2_with fail
      refine bodyPost_ret (v := .agg #[.slice (some ⟨g1, 0, none⟩) 26 c1, .slice (some ⟨g2, 0, none⟩) 26 c2]) (by simp [results, Try.results22, go_sem, m0, m1]) rfl ⟨_, rfl, ⟨g1, g2, c1, c2, rfl, ⟨by omega, by omega, q3, q4, q5⟩, ?_, ?_, rfl, rfl⟩, ?_⟩
      · exact (HX1.out.far (by simp; omega) _).far (by simp; omega) _
      · exact (HX2.out.far (by simp; omega) _).far (by simp; omega) _
      · exact bl_set (bl_set HB.out (by simp) _) (by simp) _
end Go.Proofs.Ytbfgnpbkgegegaa
