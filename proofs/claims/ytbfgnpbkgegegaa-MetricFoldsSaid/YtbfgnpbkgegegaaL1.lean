import Derived.Test.YtbfgnpbkgegegaaF2
namespace Go.Proofs.Ytbfgnpbkgegegaa
open Go.RowKit
set_option linter.unusedSimpArgs false
set_option linter.unusedVariables false

theorem fold_lit : foldN [2, -3, 4] = 3 ∧ foldP [2, -3, 4] = 3 := by decide
set_option maxHeartbeats 1000000 in
theorem folds_walk (v : Value) (xs : List Int) (w : World) (h : Rd .i64 w v xs) : Calls Try.prog 3 #[v] w fun e w' => e = .returned (.bool true) ∧ Below w.heap.size w w' := by
  by_cases h1 : 1000 < xs.length
  · obtain ⟨A, c, rfl, hl, hc⟩ := h
    clear hc
    go_enter Try.func3, Try.ntmps3
    go_wp2_with fail
    go_ret
    exact ⟨rfl, Below.refl _ _⟩
  · have H := Lib.hid h
    obtain ⟨A, c, rfl, hl, hc⟩ := h
    clear hc
    go_enter Try.func3, Try.ntmps3
    go_wp2_with fail
    refine (fold_any _ xs _ H.out).mono ?_
    rintro e w1 ⟨rfl, hb1⟩
    go_wp2_with fail
    refine (rfold_any _ xs _ (H.out.below hb1)).mono ?_
    rintro e w2 ⟨rfl, hb2⟩
    have HB := Lib.hid (bl_call hb1 hb2)
    clear hb1 hb2
    go_wp2_with fail
    refine (fold_any _ [2, -3, 4] _ (rd_blk (blk_new _ _) rfl (by simp) (fun j hj => by
      have : j = 0 ∨ j = 1 ∨ j = 2 := by simp at hj; omega
      rcases this with rfl | rfl | rfl <;> rfl))).mono ?_
    rw [fold_lit.1, fold_lit.2]
    rintro e w3 ⟨rfl, hb3⟩
    have HB3 := Lib.hid (bl_call (bl_alloc HB.out _) hb3)
    clear hb3
    go_wp2_with fail
    go_ret
    exact ⟨rfl, HB3.out⟩
end Go.Proofs.Ytbfgnpbkgegegaa
