import Derived.Test.YtbfgnpbkgegegaaC1
import Derived.Lib.Walk
namespace Go.Proofs.Ytbfgnpbkgegegaa
open Go.RowKit
set_option linter.unusedSimpArgs false
set_option linter.unusedVariables false

set_option maxRecDepth 100000 in
set_option maxHeartbeats 4000000 in
theorem grow_52 (w : World) : Calls Try.prog 52 #[.slice none 0 0, .int .i64 52] w fun e w' => ∃ v, e = .returned v ∧ w'.ownsRow w.heap.size 2 1 v 0 [] ∧ Below w.heap.size w w' := by
  obtain ⟨i0, hi0, hz0, hz1, hz2⟩ := info_parts info2
  have hs0 : 0 < i0.size := by rw [hz1]; omega
  have hold : (Builtin.firstCells i0.size 0 (.slice none 0 0)).run Try.prog w.drew = .ok #[] w.drew := run_firstCells_none w.drew i0.size 0 0 0
  have hrz : ∀ ty, (Builtin.append_ #[22, 3] ty #[.slice none 0 0, .int .i64 52]).run Try.prog w =
      .ok (.slice (some ⟨w.heap.size, 0, none⟩) 52 (grownCap w 52 0 2)) (w.drew.alloc (.cells (#[] ++ Builtin.zeroCells (Value.int .i64 0).cells 52 ++ Builtin.zeroCells (Value.int .i64 0).cells (grownCap w 52 0 2 - 52)) 2)) := fun ty => by
    have h := Lib.run_append_grow_zeros (P := Try.prog) w 22 3 ty 2 i0 (.int .i64 0) .i64 .i64 Try.underlying22 Try.underlying3 hi0 hz0 none 0 0 [] hold 52 (by omega) hs0 (by omega) (by omega) (by rw [hz2]; omega) (growslice_fits (by omega) (by rw [hz2]; omega))
    exact h
  have hGn : 52 ≤ grownCap w 52 0 2 := grownCap_ge w _ _ _
  obtain ⟨G, hG⟩ : ∃ G, G = grownCap w 52 0 2 := ⟨_, rfl⟩
  rw [← hG] at hrz hGn
  have hG63 : G ≤ 9223372036854775807 := by
    have := grownCap_le_maxLen w 52 0 2 (by unfold maxLen; omega)
    rw [← hG] at this
    unfold maxLen at this
    omega
  have HO := Lib.hid (World.ownsRow.drew (World.ownsRow_made (base := w.heap.size) (e := 2) (size := 1) w (Builtin.zeroCells #[.int .i64 0] 52 ++ Builtin.zeroCells #[.int .i64 0] (G - 52)) G (Nat.le_refl _) (by unfold maxLen; omega) (by simp [size_zeroCells]; omega)))
  clear hold hG
  go_enter Try.func52, Try.ntmps52
  go_wp2_with (at_builtin; refine Lib.wpList_append_run _ rfl _ _ _ _ rfl _ _ rfl rfl _ _ (hrz _) ?_)
  all_goals go_ret
  all_goals exact ⟨_, rfl, HO.out, bl_drew (bl_alloc (Below.refl _ _) _)⟩

def catK (B F : List Int) : Nat → List Int
  | 0 => []
  | 1 => B
  | _ => B ++ F
set_option maxRecDepth 100000 in
set_option maxHeartbeats 4000000 in
theorem concat_any (gl : Nat) (A1 A2 : Option Addr) (c1 c2 : Nat) (B F : List Int) (w : World) (hB : B.length = 26) (hF : F.length = 26) (hg : w.heap[gl]? = some (.cells #[.slice A1 26 c1, .slice A2 26 c2] 22 (0, 0)))
    (h1 : Rd .i64 w (.slice A1 26 c1) B) (h2 : Rd .i64 w (.slice A2 26 c2) F) :
    Calls Try.prog 48 #[.slice (some ⟨gl, 0, none⟩) 2 2] w fun e w' => ∃ r, e = .returned r ∧ Rd .i64 w' r (B ++ F) ∧ Below w.heap.size w w' := by
  obtain ⟨i0, hi0, hz0, hz1, hz2⟩ := info_parts info2
  have R1 := Lib.hid h1.reads.2
  have R2 := Lib.hid h2.reads.2
  have HG := Lib.hid hg
  have t0 := blk_cell hg 0
  have t1 := blk_cell hg 1
  have l0 := blk_lt hg
  simp at t0 t1
  have HLB := Lib.hid hB
  have HLF := Lib.hid hF
  clear hg h1 h2 hB hF
  go_enter Try.func48, Try.ntmps48
  go_wp2
  go_loop [3, 5, 11] (fun s _ i => ∃ k : Nat, k ≤ 2 ∧ i = .int .i64 k ∧ s = .int .i64 (26 * k)) (fun _ _ i => 2 - (intOf i).toNat)
  case atStart => exact ⟨0, Nat.zero_le _, rfl, rfl⟩
  case round =>
    obtain ⟨k, hk, rfl, rfl⟩ := hrel
    rcases (show k = 0 ∨ k = 1 ∨ k = 2 by omega) with rfl | rfl | rfl
    · go_wp2
      go_round
      case measure => simp [intOf]
      case rel => exact ⟨1, by omega, rfl, by first | rfl | simp⟩
    · go_wp2
      go_round
      case measure => simp [intOf]
      case rel => exact ⟨2, by omega, rfl, by first | rfl | simp⟩
    · go_wp2_with fail
      refine (grow_52 w).mono ?_
      rintro e w1 ⟨v1, rfl, ho1, hb1⟩
      have HO1 := Lib.hid ho1
      have HB1 := Lib.hid hb1
      clear ho1 hb1 t0 t1
      go_wp2_with fail
      go_loopw [6, 8, 27] (fun v _ i wr => ∃ k : Nat, k ≤ 2 ∧ i = .int .i64 k ∧ wr.ownsRow w.heap.size 2 1 v (catK B F k).length ((catK B F k).map (Value.int .i64)) ∧ Below w.heap.size w wr) (fun _ _ i _ => 2 - (intOf i).toNat)
      case atStart => exact ⟨0, Nat.zero_le _, rfl, HO1.out, HB1.out⟩
      case round =>
        obtain ⟨k, hk, rfl, ho, hb⟩ := hrel
        have t0 : wr.cell? ⟨gl, 0, none⟩ = some (.slice A1 26 c1) := blk_cell (blk_below HG.out hb) 0
        have t1 : wr.cell? ⟨gl, 1, none⟩ = some (.slice A2 26 c2) := blk_cell (blk_below HG.out hb) 1
        have HB := Lib.hid hb
        have HR1 := Lib.hid (R1.out.below hb)
        have HR2 := Lib.hid (R2.out.below hb)
        have hsz := hb.size
        clear hb
        rcases (show k = 0 ∨ k = 1 ∨ k = 2 by omega) with rfl | rfl | rfl
        · have HO := Lib.hid ho
          clear ho
          go_wp2_with (first
            | (at_builtin
               refine wpList_append_any _ rfl (.tmp 31) (.tmp 32) _ rfl w.heap.size 2 i0 _ 1 8 Try.underlying22 hi0 hz0 hz1 hz2 rfl (by omega) _ 0 [] rfl
                 HO.out w.heap.size A1 26 c1 (B.map (Value.int .i64)) rfl HR1.out (one_ints _ _) (by simp only [maxLen]; omega) (by omega) hsz ?_
               intro v2 w2 hown2 hg2 hat2
               have hbw2 : Below w.heap.size w w2 := HB.out.grown hg2 hsz (fun g hg => (HO.out.lt g hg).1)
               have HO2 := Lib.hid (show w2.ownsRow w.heap.size 2 1 v2 (catK B F 1).length ((catK B F 1).map (Value.int .i64)) by
                 have h9 := hown2
                 simp only [List.nil_append, Nat.zero_add] at h9
                 show w2.ownsRow w.heap.size 2 1 v2 B.length (B.map (Value.int .i64))
                 rw [HLB.out]; exact h9)
               clear hown2 hg2 hat2))
          go_roundw
          case measure => simp [intOf]
          case rel => exact ⟨1, by omega, by first | rfl | go_num, HO2.out, hbw2⟩
        · have HO := Lib.hid (show wr.ownsRow w.heap.size 2 1 u6 26 (B.map (Value.int .i64)) by
            have h9 : wr.ownsRow w.heap.size 2 1 u6 B.length (B.map (Value.int .i64)) := ho
            rwa [HLB.out] at h9)
          clear ho
          go_wp2_with (first
            | (at_builtin
               refine wpList_append_any _ rfl (.tmp 31) (.tmp 32) _ rfl w.heap.size 2 i0 _ 1 8 Try.underlying22 hi0 hz0 hz1 hz2 rfl (by omega) _ 26 _ rfl
                 HO.out w.heap.size A2 26 c2 (F.map (Value.int .i64)) rfl HR2.out (one_ints _ _) (by simp only [maxLen]; omega) (by omega) hsz ?_
               intro v2 w2 hown2 hg2 hat2
               have hbw2 : Below w.heap.size w w2 := HB.out.grown hg2 hsz (fun g hg => (HO.out.lt g hg).1)
               have HO2 := Lib.hid (show w2.ownsRow w.heap.size 2 1 v2 (catK B F 2).length ((catK B F 2).map (Value.int .i64)) by
                 show w2.ownsRow w.heap.size 2 1 v2 (B ++ F).length ((B ++ F).map (Value.int .i64))
                 rw [List.length_append, HLB.out, HLF.out, List.map_append]; exact hown2)
               clear hown2 hg2 hat2))
          go_roundw
          case measure => simp [intOf]
          case rel => exact ⟨2, by omega, by first | rfl | go_num, HO2.out, hbw2⟩
        · have HR := Lib.hid (own_rd (xs := B ++ F) ho).1
          clear ho
          go_wp2_with fail
          go_ret
          exact ⟨_, rfl, HR.out, HB.out⟩
end Go.Proofs.Ytbfgnpbkgegegaa
