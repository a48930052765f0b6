/- Walks of the reference: natCmp. -/
import Derived.Test.YtikpdkgamcecjaaN3
namespace Go.Proofs.Ytikpdkgamcecjaa
open Go.RowKit
set_option linter.unusedSimpArgs false
set_option linter.unusedVariables false

set_option maxHeartbeats 4000000 in
theorem rcmp_any (v u : Value) (a b : Nat) (w : World) (hx : Rd .u32 w v (limbs a)) (hy : Rd .u32 w u (limbs b)) :
    Calls Try.prog 63 #[v, u] w fun e w' => e = .returned (.int .i64 (cmpZ a b)) ∧ Below w.heap.size w w' := by
  obtain ⟨xs, hxs⟩ : ∃ xs, xs = limbs a := ⟨_, rfl⟩
  obtain ⟨ys, hys⟩ : ∃ ys, ys = limbs b := ⟨_, rfl⟩
  rw [← hxs] at hx
  rw [← hys] at hy
  have HXS := Lib.hid hxs
  have HYS := Lib.hid hys
  have HX := Lib.hid hx
  have HY := Lib.hid hy
  have LX := Lib.hid (show Lb xs by rw [hxs]; exact lb_limbs a)
  have LY := Lib.hid (show Lb ys by rw [hys]; exact lb_limbs b)
  obtain ⟨A, c1, rfl, ⟨l1, l2⟩, _⟩ := hx
  obtain ⟨A2, c2, rfl, ⟨l3, l4⟩, _⟩ := hy
  clear hxs hys
  by_cases hl : xs.length = ys.length
  · have HL := Lib.hid hl
    have t1 : ((xs.length : Int) != (ys.length : Int)) = false := by simp; omega
    clear hl
    go_enter Try.func63, Try.ntmps63
    go_wp2
    go_loopw [5] (fun u wr => ∃ m : Nat, m ≤ xs.length ∧ u = .int .i64 ((m : Int) - 1) ∧ (∀ j, m ≤ j → j < xs.length → xs.getD j 0 = ys.getD j 0) ∧ Below w.heap.size w wr) (fun u _ => (intOf u + 1).toNat)
    case atStart => exact ⟨xs.length, Nat.le_refl _, rfl, fun j h1 h2 => by omega, Below.refl _ _⟩
    case round =>
      obtain ⟨m', hk, rfl, he, hb⟩ := hrel
      cases m' with
      | zero =>
        have HEQ := Lib.hid (show cmpZ a b = 0 by
          have hva : val xs = a := by rw [HXS.out]; exact val_limbs a
          have hvb : val ys = b := by rw [HYS.out]; exact val_limbs b
          have h9 := vs_eq_above (xs := xs) (ys := ys) (i := 0) xs.length (Nat.zero_le _) (fun j _ h2 => he j (Nat.zero_le _) h2)
          have hvs : vs xs xs.length = a := by rw [← hva]; exact vs_val xs
          have hvt : vs ys xs.length = b := by rw [HL.out, ← hvb]; exact vs_val ys
          simp only [vs] at h9
          unfold cmpZ
          rw [if_neg (by omega), if_neg (by omega)])
        have HB := Lib.hid hb
        clear he hb
        have e0 : ((0 : Nat) : Int) - 1 = -1 := by omega
        rw [e0]
        go_wp2
        go_ret
        exact ⟨by rw [HEQ.out]; rfl, HB.out⟩
      | succ m =>
        have e0 : ((m + 1 : Nat) : Int) - 1 = m := by omega
        rw [e0]
        have hm1 : m < xs.length := by omega
        have hm2 : m < ys.length := by have := HL.out; omega
        obtain ⟨ad, rfl, _, hc⟩ := HX.out.at_ hm1
        obtain ⟨ad2, rfl, _, hc2⟩ := HY.out.at_ hm2
        have hc' := (hb.cell (World.block_lt_of_cell? w _ hc)).trans hc
        have hc2' := (hb.cell (World.block_lt_of_cell? w _ hc2)).trans hc2
        obtain ⟨x, hx⟩ : ∃ x, x = xs.getD m 0 := ⟨_, rfl⟩
        obtain ⟨y, hy⟩ : ∃ y, y = ys.getD m 0 := ⟨_, rfl⟩
        rw [← hx] at hc'
        rw [← hy] at hc2'
        have HXX := Lib.hid hx
        have HYY := Lib.hid hy
        have HEP := Lib.hid he
        clear hc hc2 hx hy he e0
        by_cases hxy : x = y
        · have HXY := Lib.hid hxy
          subst hxy
          go_wp2
          go_quiet (fail)
          all_goals go_wp2
          all_goals try go_quiet (fail)
          all_goals go_wp2
          all_goals first
            | (exfalso; omega)
            | (go_roundw
               case measure => simp [intOf] <;> omega
               case rel =>
                 refine ⟨m, by omega, by go_num, fun j h1 h2 => ?_, by repeat (first | exact hb | refine bl_drewN ?_ _ | refine bl_drew ?_)⟩
                 by_cases e : j = m
                 · rw [e]; exact HXX.out.symm.trans HYY.out
                 · exact HEP.out j (by omega) h2)
        · have hva : val xs = a := by rw [HXS.out]; exact val_limbs a
          have hvb : val ys = b := by rw [HYS.out]; exact val_limbs b
          have hvs : vs xs xs.length = a := by rw [← hva]; exact vs_val xs
          have hvt : vs ys xs.length = b := by rw [HL.out, ← hvb]; exact vs_val ys
          by_cases hlt2 : x < y
          · have h9 := vs_lt_of LX.out LY.out hm1 (fun j h1 h2 => HEP.out j h1 h2) (by rw [← HXX.out, ← HYY.out]; exact hlt2)
            have HC := Lib.hid (show cmpZ a b = -1 by unfold cmpZ; rw [if_pos (by omega)])
            clear hva hvb hvs hvt h9
            go_wp2
            go_quiet (fail)
            all_goals go_wp2
            all_goals first
              | (exfalso; omega)
              | (go_ret; exact ⟨by rw [HC.out]; rfl, by repeat (first | exact hb | refine bl_drewN ?_ _ | refine bl_drew ?_)⟩)
          · have h9 := vs_lt_of LY.out LX.out hm1 (fun j h1 h2 => (HEP.out j h1 h2).symm) (by rw [← HXX.out, ← HYY.out]; omega)
            have HC := Lib.hid (show cmpZ a b = 1 by unfold cmpZ; rw [if_neg (by omega), if_pos (by omega)])
            have hgt : y < x := by omega
            clear hva hvb hvs hvt h9
            go_wp2
            go_quiet (fail)
            all_goals go_wp2
            all_goals try go_quiet (fail)
            all_goals go_wp2
            all_goals first
              | (exfalso; omega)
              | (go_ret; exact ⟨by rw [HC.out]; rfl, by repeat (first | exact hb | refine bl_drewN ?_ _ | refine bl_drew ?_)⟩)
  · have t1 : ((xs.length : Int) != (ys.length : Int)) = true := by simp; omega
    by_cases hlt : xs.length < ys.length
    · have h9 := lt_of_len (a := a) (b := b) (by rw [← HXS.out, ← HYS.out]; exact hlt)
      have HC := Lib.hid (show cmpZ a b = -1 by unfold cmpZ; rw [if_pos (by omega)])
      clear h9
      go_enter Try.func63, Try.ntmps63
      go_wp2
      all_goals first
        | (exfalso; omega)
        | (go_ret; exact ⟨by rw [HC.out]; rfl, Below.refl _ _⟩)
    · have h9 := lt_of_len (a := b) (b := a) (by rw [← HXS.out, ← HYS.out]; omega)
      have HC := Lib.hid (show cmpZ a b = 1 by unfold cmpZ; rw [if_neg (by omega), if_pos (by omega)])
      clear h9
      go_enter Try.func63, Try.ntmps63
      go_wp2
      all_goals first
        | (exfalso; omega)
        | (go_ret; exact ⟨by rw [HC.out]; rfl, Below.refl _ _⟩)
end Go.Proofs.Ytikpdkgamcecjaa
