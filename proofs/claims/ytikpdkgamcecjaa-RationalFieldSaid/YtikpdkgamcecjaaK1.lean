/- Walks: keep's sameLimbs, SameRat (of equal numbers), Rat. -/
import Derived.Test.YtikpdkgamcecjaaR13
import Derived.Deep.QuietTactic
import Derived.BigQuiet
namespace Go.Proofs.Ytikpdkgamcecjaa
open Go.RowKit
set_option linter.unusedSimpArgs false
set_option linter.unusedVariables false

set_option maxHeartbeats 2000000 in
theorem sameLimbs_yes (v u : Value) (xs : List Int) (w : World) (h : Rd .u32 w v xs) (h' : Rd .u32 w u xs) :
    Calls Try.prog 61 #[v, u] w fun e w' => e = .returned (.bool true) ∧ Below w.heap.size w w' := by
  obtain ⟨A, c, rfl, hl, hc⟩ := h
  obtain ⟨A', c', rfl, hl', hc'⟩ := h'
  have HC := Lib.hid hc
  have HC' := Lib.hid hc'
  clear hc hc'
  go_enter Try.func61, Try.ntmps61
  go_wp2
  go_loopw [5, 13] (fun _ i wr => ∃ k : Nat, k ≤ xs.length ∧ i = .int .i64 k ∧ Below w.heap.size w wr) (fun _ i _ => xs.length - (intOf i).toNat)
  case atStart => exact ⟨0, Nat.zero_le _, rfl, Below.refl _ _⟩
  case round =>
    obtain ⟨k, hk, rfl, hb⟩ := hrel
    have HB := Lib.hid hb
    by_cases hlt : k < xs.length
    · have hne : xs ≠ [] := by rintro rfl; simp at hlt
      obtain ⟨ad, rfl, hcell⟩ := HC.out.resolve_left hne
      obtain ⟨ad', rfl, hcell'⟩ := HC'.out.resolve_left hne
      obtain ⟨x, hx⟩ : ∃ x, x = xs.getD k 0 := ⟨_, rfl⟩
      have h1 : wr.cell? (ad.add k) = some (.int .u32 x) := by rw [hx]; exact (hb.cell (World.block_lt_of_cell? w _ (hcell k hlt))).trans (hcell k hlt)
      have h2 : wr.cell? (ad'.add k) = some (.int .u32 x) := by rw [hx]; exact (hb.cell (World.block_lt_of_cell? w _ (hcell' k hlt))).trans (hcell' k hlt)
      clear hcell hcell' hne hx hb
      go_wp2
      go_quiet (fail)
      all_goals go_wp2
      all_goals first
        | (exfalso; omega)
        | (go_roundw
           case measure => simp [intOf]; omega
           case rel => exact ⟨k + 1, by omega, by go_num, by repeat (first | exact HB.out | refine bl_drewN ?_ _ | refine bl_drew ?_)⟩)
    · clear hb
      go_wp2
      go_ret
      exact ⟨rfl, HB.out⟩
set_option maxHeartbeats 2000000 in
theorem sameRat_yes (v u : Value) (r : Raw) (w : World) (h : RdR w v r) (h' : RdR w u r) :
    Calls Try.prog 20 #[v, u] w fun e w' => e = .returned (.bool true) ∧ Below w.heap.size w w' := by
  obtain ⟨b, f, rfl, hb, hf⟩ := h
  obtain ⟨b', f', rfl, hb', hf'⟩ := h'
  have H1 := Lib.hid hb.now
  have H2 := Lib.hid hf.now
  have H3 := Lib.hid hb'.now
  have H4 := Lib.hid hf'.now
  obtain ⟨A1, c1, rfl, _, _⟩ := hb.len
  obtain ⟨A2, c2, rfl, _, _⟩ := hf.len
  obtain ⟨A3, c3, rfl, _, _⟩ := hb'.len
  obtain ⟨A4, c4, rfl, _, _⟩ := hf'.len
  clear hb hf hb' hf'
  obtain ⟨neg, xs, ys⟩ := r
  simp only at H1 H2 H3 H4 ⊢
  go_enter Try.func20, Try.ntmps20
  go_wp2_with fail
  have HA := Lib.hid (show Below w.heap.size w ((w.alloc (.cells #[.bool neg, .slice A1 xs.length c1, .slice A2 ys.length c2] 24)).alloc (.cells #[.bool neg, .slice A3 xs.length c3, .slice A4 ys.length c4] 24)) from bl_alloc (bl_alloc (Below.refl _ _) _) _)
  refine (sameLimbs_yes _ _ xs _ (H1.out.below HA.out) (H3.out.below HA.out)).mono ?_
  rintro e w1 ⟨rfl, hb1⟩
  have HB1 := Lib.hid (bl_call HA.out hb1)
  obtain ⟨hc1, hf1⟩ := bcell hb1
  have z1 := hb1.size
  simp at z1
  have z2 : w.heap.size < w1.heap.size := by omega
  have z3 : w.heap.size + 1 < w1.heap.size := by omega
  go_wp2_with fail
  refine (sameLimbs_yes _ _ ys _ (H2.out.below HB1.out) (H4.out.below HB1.out)).mono ?_
  rintro e w2 ⟨rfl, hb2⟩
  go_wp2_with fail
  go_ret
  exact ⟨rfl, bl_call HB1.out hb2⟩
/-- At most eight limbs. -/
def smallB (r : Raw) : Bool := decide (r.num.length ≤ 8) && decide (r.den.length ≤ 8)
set_option maxHeartbeats 2000000 in
theorem keepRat_any (v : Value) (r : Raw) (w : World) (h : RdR w v r) :
    Calls Try.prog 17 #[v] w fun e w' => e = .returned (.bool (smallB r)) ∧ Below w.heap.size w w' := by
  obtain ⟨b, f, rfl, hb, hf⟩ := h
  obtain ⟨A1, c1, rfl, _, _⟩ := hb.len
  obtain ⟨A2, c2, rfl, _, _⟩ := hf.len
  clear hb hf
  obtain ⟨neg, xs, ys⟩ := r
  simp only
  have HE := Lib.hid (show smallB ⟨neg, xs, ys⟩ = (decide (xs.length ≤ 8) && decide (ys.length ≤ 8)) from rfl)
  by_cases h1 : xs.length ≤ 8
  · go_enter Try.func17, Try.ntmps17
    go_wp2
    all_goals first
      | (exfalso; omega)
      | (go_ret; exact ⟨by rw [HE.out]; simp [*]; try omega, bl_alloc (Below.refl _ _) _⟩)
  · go_enter Try.func17, Try.ntmps17
    go_wp2
    all_goals first
      | (exfalso; omega)
      | (go_ret; exact ⟨by rw [HE.out]; simp [*]; try omega, bl_alloc (Below.refl _ _) _⟩)
end Go.Proofs.Ytikpdkgamcecjaa
