import Derived.Test.YtbfgnpbkgegegaaC5
import Derived.Test.YtbfgnpbkgegegaaC6
import Derived.Test.YtbfgnpbkgegegaaQ7
import Derived.Test.YtbfgnpbkgegegaaO0
import Derived.Deep.SlicePairs
namespace Go.Proofs.Ytbfgnpbkgegegaa
open Go.ChangeShapes Go.WideShapes Go.ChangeAt Go.RowKit Go.Joins
set_option linter.unusedSimpArgs false
set_option linter.unusedVariables false

theorem open_metrics {H : Type} {enc : TypeId × Value → H} {w : World} {base b0 : Nat} {held : Bool} {r : Reach} {v : Value} {d : DataW H} {p : List MemPlace}
    (hv : Value.okWide Try.prog w r b0 30 v) (h : DataW.Trod enc Try.prog w base (fun _ => true) held 30 v d p) : ∃ ms : List (List Int × List Int), RdMs w v ms := by
  obtain ⟨A, len, cap, rfl⟩ := okWide_slice Try.underlying30 hv
  obtain ⟨fuel, hf⟩ := h
  rcases Go.Deep.open_slice_pairs Try.underlying30 Try.underlying28 (by kernel_rfl) rfl rfl (by kernel_rfl) (by kernel_rfl) hf with ⟨hcs, _⟩ | ⟨a, l, c, m, n, V0, V1, D0, D1, P0, P1, hcs, _, hl, hm, hmm, _, hx⟩
  · simp [Value.cells] at hcs
    obtain ⟨rfl, rfl, rfl⟩ := hcs
    exact ⟨[], none, 0, rfl, ⟨by simp, by simp⟩, .inl rfl⟩
  · simp [Value.cells] at hcs
    obtain ⟨rfl, rfl, rfl⟩ := hcs
    have hlm : len ≤ m := by rw [hmm]; split <;> omega
    have each : ∀ i, i < len → ∃ k : List Int × List Int, RdMc w (a.add (i * 2)) k := by
      intro i hi
      obtain ⟨h1, h2, h3, h4⟩ := hx i (by omega)
      obtain ⟨xs, q1, _⟩ := open_rd Try.underlying22 Try.underlying2 (by kernel_rfl) h3
      obtain ⟨ys, q2, _⟩ := open_rd Try.underlying22 Try.underlying2 (by kernel_rfl) h4
      refine ⟨(xs, ys), V0 i, V1 i, h1, ?_, q1, q2⟩
      rw [← add_lit _ 1 (by omega), add_of_add]
      exact h2
    obtain ⟨F, hF⟩ := Go.Deep.choose_lt each
    unfold maxLen at hm
    refine ⟨(List.range len).map F, some a, cap, by simp, ⟨by simp; omega, by simp; omega⟩, .inr ⟨a, rfl, fun j hj => ?_⟩⟩
    have hj2 : j < len := by simpa using hj
    have e : ((List.range len).map F).getD j ([], []) = F j := by
      simp [List.getD_eq_getElem?_getD, List.getElem?_map, List.getElem?_range hj2]
    rw [e]
    exact hF j hj2

theorem metB_len {n : Nat} {ms : List (List Int × List Int)} (h : metB n ms = true) : ms.length ≤ n := by
  unfold metB at h
  simp at h
  exact h.2
set_option maxRecDepth 100000 in
set_option maxHeartbeats 4000000 in
theorem combines_row (v : Value) (ms : List (List Int × List Int)) (u : Value) (ws : List Int) (w : World) (h : RdMs w v ms) (h' : Rd .i64 w u ws) :
    Calls Try.prog 10 #[v, u] w fun e w' => e = .returned (.bool true) ∧ Below w.heap.size w w' := by
  have H1 := Lib.hid h
  have H2 := Lib.hid h'
  obtain ⟨A, c, rfl, hl1, hx⟩ := h
  obtain ⟨A', c', rfl, hl2, hx'⟩ := h'
  clear hx hx'
  go_enter Try.func10, Try.ntmps10
  go_wp2_with fail
  refine (metrics_any _ ms 6 (by omega) _ H1.out).mono ?_
  cases hm : metB 6 ms
  · rintro e w1 ⟨rfl, hb1⟩
    have HB1 := Lib.hid hb1
    clear hb1
    go_wp2_with fail
    go_ret
    exact ⟨rfl, HB1.out⟩
  · have hlen := metB_len hm
    rintro e w1 ⟨rfl, hb1⟩
    have HB1 := Lib.hid hb1
    clear hb1 hm
    by_cases h8 : 8 < ws.length
    · go_wp2_with fail
      all_goals first
        | (exfalso; omega)
        | (go_ret; exact ⟨rfl, HB1.out⟩)
    · go_wp2_with fail
      all_goals try (exfalso; omega)
      refine (combine_any _ _ ms ws _ (H1.out.below HB1.out) (H2.out.below HB1.out) (by omega)).mono ?_
      rintro e w2 ⟨r, rfl, hr, hb2⟩
      obtain ⟨E, hE⟩ : ∃ z, z = combE ms ws := ⟨_, rfl⟩
      obtain ⟨BL, hBL⟩ : ∃ z, z = combB ms ws := ⟨_, rfl⟩
      obtain ⟨FL, hFL⟩ : ∃ z, z = combF ms ws := ⟨_, rfl⟩
      rw [← hBL, ← hFL] at hr
      have HR := Lib.hid hr
      have HB2 := Lib.hid (bl_call HB1.out hb2)
      obtain ⟨b9, f9, rfl, hx, hy⟩ := hr
      obtain ⟨A5, c5, rfl, _, _⟩ := hx
      obtain ⟨A6, c6, rfl, _, _⟩ := hy
      obtain ⟨n5, hn5⟩ : ∃ k, k = BL.length := ⟨_, rfl⟩
      obtain ⟨n6, hn6⟩ : ∃ k, k = FL.length := ⟨_, rfl⟩
      have T := Lib.hid (rcombine_any (.slice A ms.length c) (.slice A' ws.length c') ms ws (w2.alloc (.cells #[.slice A5 n5 c5, .slice A6 n6 c6] 28)) (H1.out.below (bl_alloc HB2.out _)) (H2.out.below (bl_alloc HB2.out _)) (by omega))
      rw [← hBL, ← hFL, ← hE] at T
      rw [← hn5, ← hn6] at HR ⊢
      rw [← hE]
      clear hb2 hE hBL hFL hn5 hn6
      go_wp2_with fail
      refine T.out.mono ?_
      rintro e w3 ⟨r, rfl, hr, hb3⟩
      have HR2 := Lib.hid hr
      have G1 := Lib.hid (blk_below (blk_new w2 (.cells #[.slice A5 n5 c5, .slice A6 n6 c6] 28)) hb3)
      have HR1 := Lib.hid (HR.out.below (bl_call (bl_alloc (Below.refl _ _) _) hb3))
      have HB3 := Lib.hid (bl_call (bl_alloc HB2.out _) hb3)
      obtain ⟨b9, f9, rfl, hx, hy⟩ := hr
      obtain ⟨A7, c7, rfl, _, _⟩ := hx
      obtain ⟨A8, c8, rfl, _, _⟩ := hy
      have m0 := blk_cell G1.out 0
      have m1 := blk_cell G1.out 1
      simp at m0 m1
      have l1 := blk_lt G1.out
      obtain ⟨n7, hn7⟩ : ∃ k, k = BL.length := ⟨_, rfl⟩
      obtain ⟨n8, hn8⟩ : ∃ k, k = FL.length := ⟨_, rfl⟩
      rw [← hn7, ← hn8] at HR2 ⊢
      clear hb3 hn7 hn8 T
      go_wp2_with fail
      refine (same_yes _ _ BL FL _ (HR1.out.below (bl_alloc (Below.refl _ _) _)) (HR2.out.below (bl_alloc (Below.refl _ _) _))).mono ?_
      rintro e w4 ⟨rfl, hb4⟩
      have HB4 := Lib.hid (bl_call (bl_alloc HB3.out _) hb4)
      clear hb4
      go_wp2_with fail
      refine (awake_any _).mono ?_
      rintro e w5 ⟨rfl, hb5⟩
      go_wp2_with fail
      go_ret
      exact ⟨rfl, bl_call HB4.out hb5⟩
end Go.Proofs.Ytbfgnpbkgegegaa
