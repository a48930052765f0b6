import Derived.Test.YtbfgnpbkgegegaaF1
namespace Go.Proofs.Ytbfgnpbkgegegaa
open Go.RowKit
set_option linter.unusedSimpArgs false
set_option linter.unusedVariables false

/-- A metric that reads as the lists bs and fs. -/
def RdM (w : World) (v : Value) (bs fs : List Int) : Prop := ∃ b f, v = .agg #[b, f] ∧ Rd .i64 w b bs ∧ Rd .i64 w f fs
theorem RdM.below {w w1 : World} {v : Value} {bs fs : List Int} (h : RdM w v bs fs) (hb : Below w.heap.size w w1) : RdM w1 v bs fs := by
  obtain ⟨b, f, h1, h2, h3⟩ := h
  exact ⟨b, f, h1, h2.below hb, h3.below hb⟩
def costB (b f : Int) : Bool := decide (-1000 ≤ b) && (decide (b ≤ 1000) && (decide (-1000 ≤ f) && decide (f ≤ 1000)))
def costsB (bs fs : List Int) (k : Nat) : Bool := (List.range k).all fun i => costB (bs.getD i 0) (fs.getD i 0)
def endsB (bs fs : List Int) : Bool := decide (bs.getD 25 0 ≤ 0) && (decide (fs.getD 25 0 ≤ 0) && (decide (0 ≤ bs.getD 24 0) && (decide (0 ≤ fs.getD 24 0) && decide (fs.getD 20 0 = 0))))
def validM (bs fs : List Int) : Bool := decide (bs.length = 26) && (decide (fs.length = 26) && (costsB bs fs 26 && endsB bs fs))
theorem costs_succ (bs fs : List Int) (k : Nat) : costsB bs fs (k + 1) = (costsB bs fs k && costB (bs.getD k 0) (fs.getD k 0)) := by
  unfold costsB; rw [List.range_succ, List.all_append]; simp
theorem costs_le {bs fs : List Int} {k m : Nat} (h : costsB bs fs m = true) (hk : k ≤ m) : costsB bs fs k = true := by
  unfold costsB at *
  rw [List.all_eq_true] at *
  intro i hi
  exact h i (by simp at *; omega)
set_option maxHeartbeats 2000000 in
theorem valid_yes (ab af : Addr) (cb cf : Nat) (bs fs : List Int) (w : World) (hb : ∀ j, j < 26 → w.cell? (ab.add j) = some (.int .i64 (bs.getD j 0))) (hf : ∀ j, j < 26 → w.cell? (af.add j) = some (.int .i64 (fs.getD j 0))) :
    Calls Try.prog 15 #[.agg #[.slice (some ab) 26 cb, .slice (some af) 26 cf]] w fun e w' => e = .returned (.bool (costsB bs fs 26 && endsB bs fs)) ∧ Below w.heap.size w w' := by
  have HB := Lib.hid hb
  have HF := Lib.hid hf
  clear hb hf
  go_enter Try.func15, Try.ntmps15
  go_wp2
  go_loopw [3, 4, 5, 16] (fun u3 u4 u5 i wr => ∃ k n : Nat, k ≤ 26 ∧ i = .int .i64 k ∧ costsB bs fs k = true ∧ wr = (w.alloc (.cells #[.slice (some ab) 26 cb, .slice (some af) 26 cf] 28)).drewN n) (fun _ _ _ i _ => 26 - (intOf i).toNat)
  case atStart => exact ⟨0, 0, by omega, rfl, rfl, rfl⟩
  case round =>
    obtain ⟨k, n, hk, rfl, hc, rfl⟩ := hrel
    have HC := Lib.hid hc
    clear hc
    by_cases hlt : k < 26
    · have q1 : (w.alloc (.cells #[.slice (some ab) 26 cb, .slice (some af) 26 cf] 28)).cell? (ab.add k) = some (.int .i64 (bs.getD k 0)) :=
        ((bl_alloc (Below.refl _ _) _).cell (World.block_lt_of_cell? w _ (HB.out k hlt))).trans (HB.out k hlt)
      have q2 : (w.alloc (.cells #[.slice (some ab) 26 cb, .slice (some af) 26 cf] 28)).cell? (af.add k) = some (.int .i64 (fs.getD k 0)) :=
        ((bl_alloc (Below.refl _ _) _).cell (World.block_lt_of_cell? w _ (HF.out k hlt))).trans (HF.out k hlt)
      obtain ⟨x, hx⟩ : ∃ x, x = bs.getD k 0 := ⟨_, rfl⟩
      obtain ⟨y, hy⟩ : ∃ y, y = fs.getD k 0 := ⟨_, rfl⟩
      rw [← hx] at q1
      rw [← hy] at q2
      have hs := costs_succ bs fs k
      rw [HC.out, ← hx, ← hy, Bool.true_and] at hs
      have HS := Lib.hid hs
      clear hs hx hy
      have hki : (k : Int) < 26 := by omega
      have hk0 : (0 : Int) ≤ (k : Int) := by omega
      cases hcb : costB x y
      · have hno : x < -1000 ∨ 1000 < x ∨ y < -1000 ∨ 1000 < y := by unfold costB at hcb; simp at hcb; omega
        have hf : (costsB bs fs 26 && endsB bs fs) = false := by
          cases h : costsB bs fs 26
          · rfl
          · have h2 := costs_le h (show k + 1 ≤ 26 by omega)
            rw [HS.out, hcb] at h2
            cases h2
        have HF0 := Lib.hid hf
        clear hf hcb
        go_wp2
        go_quiet (fail)
        go_wp2
        all_goals first
          | (exfalso; omega)
          | (go_ret; refine ⟨by rw [HF0.out]; rfl, ?_⟩; exact bl_drewN (bl_alloc (Below.refl _ _) _) _)
      · have hyes : -1000 ≤ x ∧ x ≤ 1000 ∧ -1000 ≤ y ∧ y ≤ 1000 := by unfold costB at hcb; simp at hcb; omega
        rw [hcb] at HS
        obtain ⟨y1, y2, y3, y4⟩ := hyes
        clear hcb
        go_wp2
        go_quiet (fail)
        go_wp2
        all_goals first
          | (exfalso; omega)
          | (go_roundw
             case measure => simp [intOf]; omega
             case rel => exact ⟨k + 1, _, by omega, by go_num, HS.out, rfl⟩)
    · obtain rfl : k = 26 := by omega
      have e1 : (costsB bs fs 26 && endsB bs fs) = endsB bs fs := by rw [HC.out]; rfl
      have E1 := Lib.hid e1
      clear e1
      have q : ∀ (a : Addr) (l : List Int), (∀ j, j < 26 → w.cell? (a.add j) = some (.int .i64 (l.getD j 0))) → ∀ j, j < 26 → (w.alloc (.cells #[.slice (some ab) 26 cb, .slice (some af) 26 cf] 28)).cell? (a.add j) = some (.int .i64 (l.getD j 0)) := fun a l h j hj =>
        ((bl_alloc (Below.refl _ _) _).cell (World.block_lt_of_cell? w _ (h j hj))).trans (h j hj)
      have q1 := q ab bs HB.out 25 (by omega)
      have q2 := q af fs HF.out 25 (by omega)
      have q3 := q ab bs HB.out 24 (by omega)
      have q4 := q af fs HF.out 24 (by omega)
      have q5 := q af fs HF.out 20 (by omega)
      have E2 := Lib.hid (show endsB bs fs = (decide (bs.getD 25 0 ≤ 0) && (decide (fs.getD 25 0 ≤ 0) && (decide (0 ≤ bs.getD 24 0) && (decide (0 ≤ fs.getD 24 0) && decide (fs.getD 20 0 = 0))))) from rfl)
      obtain ⟨x1, hx1⟩ : ∃ x, x = bs.getD 25 0 := ⟨_, rfl⟩
      obtain ⟨x2, hx2⟩ : ∃ x, x = fs.getD 25 0 := ⟨_, rfl⟩
      obtain ⟨x3, hx3⟩ : ∃ x, x = bs.getD 24 0 := ⟨_, rfl⟩
      obtain ⟨x4, hx4⟩ : ∃ x, x = fs.getD 24 0 := ⟨_, rfl⟩
      obtain ⟨x5, hx5⟩ : ∃ x, x = fs.getD 20 0 := ⟨_, rfl⟩
      rw [← hx1] at q1 E2
      rw [← hx2] at q2 E2
      rw [← hx3] at q3 E2
      rw [← hx4] at q4 E2
      rw [← hx5] at q5 E2
      clear q hx1 hx2 hx3 hx4 hx5
      rw [add_lit _ _ (by omega)] at q1 q2 q3 q4 q5
      go_wp2
      all_goals go_ret
      all_goals refine ⟨?_, bl_drewN (bl_alloc (Below.refl _ _) _) _⟩
      all_goals rw [E1.out, E2.out]
      all_goals (refine congrArg (fun b => Ending.returned (.bool b)) ?_)
      all_goals first
        | (simp [*]; done)
        | (simp [*]; omega)
        | (rw [Bool.eq_iff_iff]; simp [*]; done)
        | (rw [Bool.eq_iff_iff]; simp [*]; omega)
        | (trace_state; fail)
end Go.Proofs.Ytbfgnpbkgegegaa
