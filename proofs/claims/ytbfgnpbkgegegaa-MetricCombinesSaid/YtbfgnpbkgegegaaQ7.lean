import Derived.Test.YtbfgnpbkgegegaaQ6
namespace Go.Proofs.Ytbfgnpbkgegegaa
open Go.RowKit
set_option linter.unusedSimpArgs false
set_option linter.unusedVariables false

set_option maxHeartbeats 2000000 in
theorem same64_yes (v u : Value) (xs : List Int) (w : World) (h : Rd .i64 w v xs) (h' : Rd .i64 w u xs) :
    Calls Try.prog 44 #[v, u] w fun e w' => e = .returned (.bool true) ∧ Below w.heap.size w w' := by
  obtain ⟨A, c, rfl, hl, hc⟩ := h
  obtain ⟨A', c', rfl, hl', hc'⟩ := h'
  have HC := Lib.hid hc
  have HC' := Lib.hid hc'
  clear hc hc'
  go_enter Try.func44, Try.ntmps44
  go_wp2
  go_loopw [5, 13] (fun _ i wr => ∃ k : Nat, k ≤ xs.length ∧ i = .int .i64 k ∧ Below w.heap.size w wr) (fun _ i _ => xs.length - (intOf i).toNat)
  case atStart => exact ⟨0, Nat.zero_le _, rfl, Below.refl _ _⟩
  case round =>
    obtain ⟨k, hk, rfl, hb⟩ := hrel
    have HB := Lib.hid hb
    by_cases hlt : k < xs.length
    · have hne : xs ≠ [] := by rintro rfl; simp at hlt
      obtain ⟨ad, rfl, hcell⟩ := HC.out.resolve_left hne
      obtain ⟨ad', rfl, hcell'⟩ := HC'.out.resolve_left hne
      obtain ⟨x, hx⟩ : ∃ x, x = xs.getD k 0 := ⟨_, rfl⟩
      have h1 : wr.cell? (ad.add k) = some (.int .i64 x) := by rw [hx]; exact (hb.cell (World.block_lt_of_cell? w _ (hcell k hlt))).trans (hcell k hlt)
      have h2 : wr.cell? (ad'.add k) = some (.int .i64 x) := by rw [hx]; exact (hb.cell (World.block_lt_of_cell? w _ (hcell' k hlt))).trans (hcell' k hlt)
      clear hcell hcell' hne hx hb
      go_wp2
      go_quiet (fail)
      all_goals go_wp2
      all_goals first
        | (exfalso; omega)
        | (go_roundw
           case measure => simp [intOf]; omega
           case rel => exact ⟨k + 1, by omega, by go_num, by repeat (first | exact HB.out | refine bl_drewN ?_ _ | refine bl_drew ?_)⟩)
    · clear hb
      go_wp2
      go_ret
      exact ⟨rfl, HB.out⟩
set_option maxHeartbeats 2000000 in
theorem same_yes (v u : Value) (bs fs : List Int) (w : World) (h : RdM w v bs fs) (h' : RdM w u bs fs) :
    Calls Try.prog 36 #[v, u] w fun e w' => e = .returned (.bool true) ∧ Below w.heap.size w w' := by
  obtain ⟨b, f, rfl, hb, hf⟩ := h
  obtain ⟨b', f', rfl, hb', hf'⟩ := h'
  have H1 := Lib.hid hb
  have H2 := Lib.hid hf
  have H3 := Lib.hid hb'
  have H4 := Lib.hid hf'
  obtain ⟨A1, c1, rfl, l1, x1⟩ := hb
  obtain ⟨A2, c2, rfl, l2, x2⟩ := hf
  obtain ⟨A3, c3, rfl, l3, x3⟩ := hb'
  obtain ⟨A4, c4, rfl, l4, x4⟩ := hf'
  clear x1 x2 x3 x4
  go_enter Try.func36, Try.ntmps36
  go_wp2_with fail
  have HA := Lib.hid (show Below w.heap.size w ((w.alloc (.cells #[.slice A1 bs.length c1, .slice A2 fs.length c2] 28)).alloc (.cells #[.slice A3 bs.length c3, .slice A4 fs.length c4] 28)) from bl_alloc (bl_alloc (Below.refl _ _) _) _)
  refine (same64_yes _ _ bs _ (H1.out.below HA.out) (H3.out.below HA.out)).mono ?_
  rintro e w1 ⟨rfl, hb1⟩
  have HB1 := Lib.hid (bl_call HA.out hb1)
  obtain ⟨hc1, hf1⟩ := bcell hb1
  have z1 := hb1.size
  simp at z1
  have z2 : w.heap.size < w1.heap.size := by omega
  have z3 : w.heap.size + 1 < w1.heap.size := by omega
  go_wp2_with fail
  refine (same64_yes _ _ fs _ (H2.out.below HB1.out) (H4.out.below HB1.out)).mono ?_
  rintro e w2 ⟨rfl, hb2⟩
  go_wp2_with fail
  go_ret
  exact ⟨rfl, bl_call HB1.out hb2⟩
end Go.Proofs.Ytbfgnpbkgegegaa
