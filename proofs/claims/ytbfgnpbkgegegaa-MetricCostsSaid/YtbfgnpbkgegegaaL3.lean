import Derived.Test.YtbfgnpbkgegegaaL2
import Derived.Deep.RegionHeld3
namespace Go.Proofs.Ytbfgnpbkgegegaa
open Go.RowKit
set_option linter.unusedSimpArgs false
set_option linter.unusedVariables false

set_option maxHeartbeats 2000000 in
theorem costs_walk (v : Value) (m : List Int × List Int) (s n : Int) (w : World) (h : RdM w v m.1 m.2) : Calls Try.prog 5 #[v, .int .i64 s, .int .i64 n] w fun e w' => e = .returned (.bool true) ∧ Below w.heap.size w w' := by
  obtain ⟨bs, fs⟩ := m
  obtain ⟨b, f, rfl, hb, hf⟩ := h
  have HX1 := Lib.hid hb
  have HX2 := Lib.hid hf
  obtain ⟨A1, c1, rfl, hl1, hx1⟩ := hb
  obtain ⟨A2, c2, rfl, hl2, hx2⟩ := hf
  simp only at HX1 HX2
  clear hx1 hx2 hl1 hl2
  cases hm : metB 1 [(bs, fs)]
  · go_enter Try.func5, Try.ntmps5
    go_wp2_with fail
    refine (metrics_any _ [(bs, fs)] 1 (by omega) _ ?_).mono ?_
    · exact one_metric (by simp) (HX1.out.below (bl_alloc (Below.refl _ _) _)) (HX2.out.below (bl_alloc (Below.refl _ _) _))
    rw [hm]
    rintro e w1 ⟨rfl, hb1⟩
    go_wp2_with fail
    go_ret
    exact ⟨rfl, bl_call (bl_alloc (bl_alloc (Below.refl _ _) _) _) hb1⟩
  · have hmm : ∀ W, Below w.heap.size w W → RdM W (.agg #[.slice A1 bs.length c1, .slice A2 fs.length c2]) bs fs := fun W hW => ⟨_, _, rfl, HX1.out.below hW, HX2.out.below hW⟩
    have HMM := Lib.hid hmm
    clear hmm
    go_enter Try.func5, Try.ntmps5
    go_wp2_with fail
    refine (metrics_any _ [(bs, fs)] 1 (by omega) _ ?_).mono ?_
    · exact one_metric (by simp) (HX1.out.below (bl_alloc (Below.refl _ _) _)) (HX2.out.below (bl_alloc (Below.refl _ _) _))
    rw [hm]
    rintro e w1 ⟨rfl, hb1⟩
    have g := blk_below (blk_alloc (blk_new w (.cells #[.slice A1 bs.length c1, .slice A2 fs.length c2] 28)) _) hb1
    have m0 := blk_cell g 0
    have m1 := blk_cell g 1
    have G := Lib.hid g
    have HB1 := Lib.hid (bl_call (bl_alloc (bl_alloc (Below.refl _ _) _) _) hb1)
    simp at m0 m1
    clear g hb1
    go_wp2_with fail
    have HK := Lib.hid (show ∀ w', Below w1.heap.size w1 w' → w'.cell? ⟨w.heap.size, 0, none⟩ = some (.slice A1 bs.length c1) ∧ w'.cell? ⟨w.heap.size, 1, none⟩ = some (.slice A2 fs.length c2) from fun w' hb => ⟨blk_cell (blk_below G.out hb) 0, blk_cell (blk_below G.out hb) 1⟩)
    go_region_held3 (fun w' => w'.cell? ⟨w.heap.size, 0, none⟩ = some (.slice A1 bs.length c1) ∧ w'.cell? ⟨w.heap.size, 1, none⟩ = some (.slice A2 fs.length c2))
      (first | (exact HK.out _ (Below.refl _ _)) | (exact HK.out _ (bl_drew (Below.refl _ _))) | (exact HK.out _ HB2.out) | (exact HK.out _ HB3.out) | (exact HK.out _ HB4.out) | go_keep)
      (first
        | (go_at_call 18; refine (cost_any _ bs fs s n _ ?_).mono ?_; (exact HMM.out _ (bl_call HB1.out (bl_drew (Below.refl _ _)))); rintro e w2 ⟨rfl, hb2⟩; have HB2 := Lib.hid (bl_call (bl_drew (Below.refl _ _)) hb2); clear hb2)
        | (go_at_call 19; refine (rcost_any _ bs fs s n _ ?_).mono ?_; (exact HMM.out _ (bl_call HB1.out HB2.out)); rintro e w3 ⟨rfl, hb3⟩; have HB3 := Lib.hid (bl_call HB2.out hb3); clear hb3)
        | (go_at_call 17; refine (awake_any _).mono ?_; rintro e w4 ⟨rfl, hb4⟩; have HB4 := Lib.hid (bl_call HB3.out hb4); clear hb4))
    go_wp2
    go_ret
    exact ⟨rfl, bl_call HB1.out HB4.out⟩
end Go.Proofs.Ytbfgnpbkgegegaa
