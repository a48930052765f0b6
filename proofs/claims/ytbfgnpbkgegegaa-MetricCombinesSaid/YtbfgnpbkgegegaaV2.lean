import Derived.Test.YtbfgnpbkgegegaaV1
namespace Go.Proofs.Ytbfgnpbkgegegaa
open Go.RowKit
set_option linter.unusedSimpArgs false
set_option linter.unusedVariables false

theorem valid_any (v : Value) (bs fs : List Int) (w : World) (h : RdM w v bs fs) :
    Calls Try.prog 15 #[v] w fun e w' => e = .returned (.bool (validM bs fs)) ∧ Below w.heap.size w w' := by
  obtain ⟨b, f, rfl, hb, hf⟩ := h
  by_cases h1 : bs.length = 26
  · by_cases h2 : fs.length = 26
    · obtain ⟨A, c, rfl, hl, hc⟩ := hb
      obtain ⟨A2, c2, rfl, hl2, hc2⟩ := hf
      obtain ⟨ab, rfl, hab⟩ := hc.resolve_left (by rintro rfl; simp at h1)
      obtain ⟨af, rfl, haf⟩ := hc2.resolve_left (by rintro rfl; simp at h2)
      have e : validM bs fs = (costsB bs fs 26 && endsB bs fs) := by unfold validM; simp [h1, h2]
      rw [e, h1, h2]
      exact valid_yes ab af c c2 bs fs w (fun j hj => hab j (by omega)) (fun j hj => haf j (by omega))
    · have e : validM bs fs = false := by unfold validM; simp [h2]
      rw [e]
      obtain ⟨A, c, rfl, hl, hc⟩ := hb
      obtain ⟨A2, c2, rfl, hl2, hc2⟩ := hf
      clear hc hc2
      have t1 : ((bs.length : Int) != 26) = false := by simp; omega
      have t2 : ((fs.length : Int) != 26) = true := by simp; omega
      clear h1 h2
      go_enter Try.func15, Try.ntmps15
      go_wp2
      all_goals go_ret
      all_goals exact ⟨rfl, bl_alloc (Below.refl _ _) _⟩
  · have e : validM bs fs = false := by unfold validM; simp [h1]
    rw [e]
    obtain ⟨A, c, rfl, hl, hc⟩ := hb
    obtain ⟨A2, c2, rfl, hl2, hc2⟩ := hf
    clear hc hc2
    have t1 : ((bs.length : Int) != 26) = true := by simp; omega
    clear h1
    go_enter Try.func15, Try.ntmps15
    go_wp2
    all_goals go_ret
    all_goals exact ⟨rfl, bl_alloc (Below.refl _ _) _⟩

/-- What the reference asks of the costs at one step besides. -/
def Sp (k : Nat) (x y : Int) : Prop := ¬ (k = 25 ∧ (0 < x ∨ 0 < y)) ∧ ¬ (k = 24 ∧ (x < 0 ∨ y < 0)) ∧ ¬ (k = 20 ∧ y ≠ 0)
theorem sp_ends (bs fs : List Int) (h : ∀ k, k < 26 → Sp k (bs.getD k 0) (fs.getD k 0)) : endsB bs fs = true := by
  obtain ⟨a1, _, _⟩ := h 25 (by omega)
  obtain ⟨_, a2, _⟩ := h 24 (by omega)
  obtain ⟨_, _, a3⟩ := h 20 (by omega)
  unfold endsB
  simp at a1 a2 a3 ⊢
  omega
theorem ends_sp (bs fs : List Int) (h : endsB bs fs = true) (k : Nat) : Sp k (bs.getD k 0) (fs.getD k 0) := by
  unfold endsB at h
  simp only [Bool.and_eq_true, decide_eq_true_eq] at h
  obtain ⟨h1, h2, h3, h4, h5⟩ := h
  refine ⟨?_, ?_, ?_⟩
  · rintro ⟨rfl, h⟩; omega
  · rintro ⟨rfl, h⟩; omega
  · rintro ⟨rfl, h⟩; omega

set_option maxHeartbeats 4000000 in
theorem rvalid_yes (ab af : Addr) (cb cf : Nat) (bs fs : List Int) (w : World) (hb : ∀ j, j < 26 → w.cell? (ab.add j) = some (.int .i64 (bs.getD j 0))) (hf : ∀ j, j < 26 → w.cell? (af.add j) = some (.int .i64 (fs.getD j 0))) :
    Calls Try.prog 16 #[.agg #[.slice (some ab) 26 cb, .slice (some af) 26 cf]] w fun e w' => e = .returned (.bool (costsB bs fs 26 && endsB bs fs)) ∧ Below w.heap.size w w' := by
  have HB := Lib.hid hb
  have HF := Lib.hid hf
  clear hb hf
  go_enter Try.func16, Try.ntmps16
  go_wp2
  go_loopw [3, 4, 5] (fun i u4 u5 wr => ∃ k n : Nat, k ≤ 26 ∧ i = .int .i64 k ∧ (costsB bs fs k = true ∧ ∀ j, j < k → Sp j (bs.getD j 0) (fs.getD j 0)) ∧ wr = (w.alloc (.cells #[.slice (some ab) 26 cb, .slice (some af) 26 cf] 28)).drewN n) (fun i _ _ _ => 26 - (intOf i).toNat)
  case atStart => exact ⟨0, 0, by omega, rfl, ⟨rfl, fun j hj => by omega⟩, rfl⟩
  case round =>
    obtain ⟨k, n, hk, rfl, hc, rfl⟩ := hrel
    have HC := Lib.hid hc
    clear hc
    by_cases hlt : k < 26
    · have q1 : (w.alloc (.cells #[.slice (some ab) 26 cb, .slice (some af) 26 cf] 28)).cell? (ab.add k) = some (.int .i64 (bs.getD k 0)) :=
        ((bl_alloc (Below.refl _ _) _).cell (World.block_lt_of_cell? w _ (HB.out k hlt))).trans (HB.out k hlt)
      have q2 : (w.alloc (.cells #[.slice (some ab) 26 cb, .slice (some af) 26 cf] 28)).cell? (af.add k) = some (.int .i64 (fs.getD k 0)) :=
        ((bl_alloc (Below.refl _ _) _).cell (World.block_lt_of_cell? w _ (HF.out k hlt))).trans (HF.out k hlt)
      obtain ⟨x, hx⟩ : ∃ x, x = bs.getD k 0 := ⟨_, rfl⟩
      obtain ⟨y, hy⟩ : ∃ y, y = fs.getD k 0 := ⟨_, rfl⟩
      rw [← hx] at q1
      rw [← hy] at q2
      have hs := costs_succ bs fs k
      rw [HC.out.1, ← hx, ← hy, Bool.true_and] at hs
      have HS := Lib.hid hs
      have hsp : (costsB bs fs 26 && endsB bs fs) = true → Sp k x y := by
        intro h
        rw [hx, hy]
        exact ends_sp bs fs (by simp at h; exact h.2) k
      have hsp2 : Sp k x y → ∀ j, j < k + 1 → Sp j (bs.getD j 0) (fs.getD j 0) := by
        intro h j hj
        by_cases e : j = k
        · subst e; rwa [← hx, ← hy]
        · exact HC.out.2 j (by omega)
      have HSP := Lib.hid hsp
      have HSP2 := Lib.hid hsp2
      clear hs hx hy hsp hsp2
      have hki : (k : Int) < 26 := by omega
      have hk0 : (0 : Int) ≤ (k : Int) := by omega
      by_cases hgood : costB x y = true ∧ Sp k x y
      · obtain ⟨hcb, hg⟩ := hgood
        have hyes : -1000 ≤ x ∧ x ≤ 1000 ∧ -1000 ≤ y ∧ y ≤ 1000 := by unfold costB at hcb; simp at hcb; omega
        rw [hcb] at HS
        have HG := Lib.hid hg
        obtain ⟨y1, y2, y3, y4⟩ := hyes
        clear hcb hg
        go_wp2
        go_quiet (fail)
        go_wp2
        all_goals first
          | (exfalso; have hg := HG.out; unfold Sp at hg; omega)
          | (exfalso; rename_i ht; have ht2 : y ≠ 0 := by simpa using ht
             have hg := HG.out; unfold Sp at hg; omega)
          | (go_roundw
             case measure => simp [intOf]; omega
             case rel => exact ⟨k + 1, _, by omega, by first | go_num | (congr 1; omega), ⟨HS.out, HSP2.out HG.out⟩, rfl⟩)
          | go_ways
      · have hf : (costsB bs fs 26 && endsB bs fs) = false := by
          cases h : (costsB bs fs 26 && endsB bs fs)
          · rfl
          · refine absurd ⟨?_, HSP.out h⟩ hgood
            have h2 : costsB bs fs 26 = true := by simp at h; exact h.1
            have h3 := costs_le h2 (show k + 1 ≤ 26 by omega)
            rwa [HS.out] at h3
        have HF0 := Lib.hid hf
        have HN := Lib.hid (show ¬ (-1000 ≤ x ∧ x ≤ 1000 ∧ -1000 ≤ y ∧ y ≤ 1000 ∧ Sp k x y) by
          rintro ⟨a1, a2, a3, a4, a5⟩
          exact hgood ⟨by unfold costB; simp [a1, a2, a3, a4], a5⟩)
        clear hf hgood
        go_wp2
        go_quiet (fail)
        go_wp2
        all_goals first
          | (exfalso; have hn := HN.out; unfold Sp at hn; omega)
          | (exfalso; rename_i ht; have ht2 : y = 0 := by simpa using ht
             have hn := HN.out; unfold Sp at hn; omega)
          | (go_ret; refine ⟨by rw [HF0.out]; rfl, ?_⟩; exact bl_drewN (bl_alloc (Below.refl _ _) _) _)
          | go_ways
    · obtain rfl : k = 26 := by omega
      have e1 : (costsB bs fs 26 && endsB bs fs) = true := by rw [HC.out.1, sp_ends bs fs HC.out.2]; rfl
      have E1 := Lib.hid e1
      clear e1
      go_wp2
      go_ret
      exact ⟨by rw [E1.out]; rfl, bl_drewN (bl_alloc (Below.refl _ _) _) _⟩
end Go.Proofs.Ytbfgnpbkgegegaa
