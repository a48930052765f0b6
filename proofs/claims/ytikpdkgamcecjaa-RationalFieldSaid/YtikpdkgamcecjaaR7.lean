/- Walks: cmp, Clone. -/
import Derived.Test.YtikpdkgamcecjaaR6
namespace Go.Proofs.Ytikpdkgamcecjaa
open Go.RowKit
set_option linter.unusedSimpArgs false
set_option linter.unusedVariables false

/-- The order of two numbers as -1, 0, 1. -/
def cmpZ (a b : Int) : Int := if a < b then -1 else if b < a then 1 else 0
theorem vs_eq_above {xs ys : List Int} {i : Nat} : ∀ n, i ≤ n → (∀ j, i ≤ j → j < n → xs.getD j 0 = ys.getD j 0) → vs xs n - vs xs i = vs ys n - vs ys i
  | 0, h, _ => by have : i = 0 := by omega
                  subst this; simp [vs]
  | n + 1, h, he => by
    by_cases e : i = n + 1
    · subst e; omega
    · have h1 := vs_eq_above n (by omega) (fun j h1 h2 => he j h1 (by omega))
      show vs xs n + xs.getD n 0 * _ - _ = vs ys n + ys.getD n 0 * _ - _
      rw [he n (by omega) (by omega)]; omega
theorem vs_lt_of {xs ys : List Int} {i n : Nat} (lx : Lb xs) (ly : Lb ys) (hi : i < n) (he : ∀ j, i + 1 ≤ j → j < n → xs.getD j 0 = ys.getD j 0) (h : xs.getD i 0 < ys.getD i 0) : vs xs n < vs ys n := by
  have h1 := vs_eq_above n (show i + 1 ≤ n by omega) he
  have e1 : vs xs (i + 1) = vs xs i + xs.getD i 0 * 1000000000 ^ i := rfl
  have e2 : vs ys (i + 1) = vs ys i + ys.getD i 0 * 1000000000 ^ i := rfl
  have h2 := vs_lt lx i
  have h3 := vs_lt ly i
  have hp := pow_pos' i
  have h4 : (xs.getD i 0 + 1) * 1000000000 ^ i ≤ ys.getD i 0 * 1000000000 ^ i := Int.mul_le_mul_of_nonneg_right (by omega) (Int.le_of_lt hp)
  rw [Int.add_mul] at h4
  omega
set_option maxHeartbeats 4000000 in
theorem cmp_any (v u : Value) (a b : Nat) (w : World) (hx : Rd .u32 w v (limbs a)) (hy : Rd .u32 w u (limbs b)) :
    Calls Try.prog 72 #[v, u] w fun e w' => e = .returned (.int .i64 (cmpZ a b)) ∧ Below w.heap.size w w' := by
  obtain ⟨xs, hxs⟩ : ∃ xs, xs = limbs a := ⟨_, rfl⟩
  obtain ⟨ys, hys⟩ : ∃ ys, ys = limbs b := ⟨_, rfl⟩
  rw [← hxs] at hx
  rw [← hys] at hy
  have HXS := Lib.hid hxs
  have HYS := Lib.hid hys
  have HX := Lib.hid hx
  have HY := Lib.hid hy
  have LX := Lib.hid (show Lb xs by rw [hxs]; exact lb_limbs a)
  have LY := Lib.hid (show Lb ys by rw [hys]; exact lb_limbs b)
  obtain ⟨A, c1, rfl, ⟨l1, l2⟩, _⟩ := hx
  obtain ⟨A2, c2, rfl, ⟨l3, l4⟩, _⟩ := hy
  clear hxs hys
  by_cases hl : xs.length = ys.length
  · have HL := Lib.hid hl
    have t1 : ((xs.length : Int) != (ys.length : Int)) = false := by simp; omega
    clear hl
    go_enter Try.func72, Try.ntmps72
    go_wp2
    go_loopw [5, 6, 19] (fun s5 s6 u wr => ∃ k : Nat, k ≤ xs.length ∧ u = .int .i64 k ∧ (∀ j, xs.length - k ≤ j → j < xs.length → xs.getD j 0 = ys.getD j 0) ∧ Below w.heap.size w wr) (fun _ _ u _ => xs.length - (intOf u).toNat)
    case atStart => exact ⟨0, Nat.zero_le _, rfl, fun j h1 h2 => by omega, Below.refl _ _⟩
    case round =>
      obtain ⟨k, hk, rfl, he, hb⟩ := hrel
      have HE := Lib.hid he
      clear he
      by_cases hlt : k < xs.length
      · obtain ⟨m, hm⟩ : ∃ m, m = xs.length - 1 - k := ⟨_, rfl⟩
        have hmi : (xs.length : Int) - 1 - k = m := by omega
        have hm1 : m < xs.length := by omega
        have hm2 : m < ys.length := by have := HL.out; omega
        obtain ⟨ad, rfl, _, hc⟩ := HX.out.at_ hm1
        obtain ⟨ad2, rfl, _, hc2⟩ := HY.out.at_ hm2
        have hc' := (hb.cell (World.block_lt_of_cell? w _ hc)).trans hc
        have hc2' := (hb.cell (World.block_lt_of_cell? w _ hc2)).trans hc2
        obtain ⟨x, hx⟩ : ∃ x, x = xs.getD m 0 := ⟨_, rfl⟩
        obtain ⟨y, hy⟩ : ∃ y, y = ys.getD m 0 := ⟨_, rfl⟩
        rw [← hx] at hc'
        rw [← hy] at hc2'
        have HXX := Lib.hid hx
        have HYY := Lib.hid hy
        have HM := Lib.hid hm
        have hep : ∀ j, m + 1 ≤ j → j < xs.length → xs.getD j 0 = ys.getD j 0 := fun j h1 h2 => HE.out j (by have := HM.out; omega) h2
        have HEP := Lib.hid hep
        clear hc hc2 hx hy hm hep
        by_cases hxy : x = y
        · have t2 : (x != y) = false := by simpa using hxy
          have HXY := Lib.hid hxy
          clear hxy
          go_wp2
          go_quiet (fail)
          go_wp2
          go_roundw
          case measure => simp [intOf]; omega
          case rel =>
            refine ⟨k + 1, by omega, by go_num, fun j h1 h2 => ?_, bl_drewN hb _⟩
            by_cases e : j = m
            · rw [e, ← HXX.out, ← HYY.out]; exact HXY.out
            · exact HEP.out j (by have := HM.out; omega) h2
        · have t2 : (x != y) = true := by simpa using hxy
          have hva : val xs = a := by rw [HXS.out]; exact val_limbs a
          have hvb : val ys = b := by rw [HYS.out]; exact val_limbs b
          have hvs : vs xs xs.length = a := by rw [← hva]; exact vs_val xs
          have hvt : vs ys xs.length = b := by rw [HL.out, ← hvb]; exact vs_val ys
          by_cases hlt2 : x < y
          · have h9 := vs_lt_of LX.out LY.out hm1 HEP.out (by rw [← HXX.out, ← HYY.out]; exact hlt2)
            have HC := Lib.hid (show cmpZ a b = -1 by unfold cmpZ; rw [if_pos (by omega)])
            clear hva hvb hvs hvt h9
            go_wp2
            go_quiet (fail)
            go_wp2
            go_quiet (fail)
            go_wp2
            go_ret
            exact ⟨by rw [HC.out]; rfl, bl_drewN (bl_drewN hb _) _⟩
          · have h9 := vs_lt_of LY.out LX.out hm1 (fun j h1 h2 => (HEP.out j h1 h2).symm) (by rw [← HXX.out, ← HYY.out]; omega)
            have HC := Lib.hid (show cmpZ a b = 1 by unfold cmpZ; rw [if_neg (by omega), if_pos (by omega)])
            clear hva hvb hvs hvt h9
            go_wp2
            go_quiet (fail)
            go_wp2
            go_quiet (fail)
            go_wp2
            go_ret
            exact ⟨by rw [HC.out]; rfl, bl_drewN (bl_drewN hb _) _⟩
      · have hva : val xs = a := by rw [HXS.out]; exact val_limbs a
        have hvb : val ys = b := by rw [HYS.out]; exact val_limbs b
        have h9 := vs_eq_above (i := 0) xs.length (Nat.zero_le _) (fun j _ h2 => HE.out j (by omega) h2)
        rw [vs_val, HL.out, vs_val] at h9
        have HC := Lib.hid (show cmpZ a b = 0 by unfold cmpZ; simp [vs] at h9; rw [if_neg (by omega), if_neg (by omega)])
        clear hva hvb h9
        go_wp2
        go_ret
        exact ⟨by rw [HC.out]; rfl, hb⟩
  · have t1 : ((xs.length : Int) != (ys.length : Int)) = true := by simp; omega
    by_cases hlt : xs.length < ys.length
    · have HC := Lib.hid (show cmpZ a b = -1 by unfold cmpZ; rw [if_pos]; have := lt_of_len (a := a) (b := b) (by rw [← HXS.out, ← HYS.out]; exact hlt); omega)
      clear hl
      go_enter Try.func72, Try.ntmps72
      go_wp2
      go_ret
      exact ⟨by rw [HC.out]; rfl, Below.refl _ _⟩
    · have HC := Lib.hid (show cmpZ a b = 1 by
        have := lt_of_len (a := b) (b := a) (by rw [← HXS.out, ← HYS.out]; omega)
        unfold cmpZ; rw [if_neg (by omega), if_pos (by omega)])
      clear hl
      go_enter Try.func72, Try.ntmps72
      go_wp2
      go_ret
      exact ⟨by rw [HC.out]; rfl, Below.refl _ _⟩

set_option maxHeartbeats 1000000 in
theorem clone_u32 (ok : Nat → Prop) (v : Value) (xs : List Int) (w : World) (hok : ∀ b, w.heap.size ≤ b → ok b) (h : Rd .u32 w v xs) (hl : xs.length ≤ 16777216) :
    Calls Try.prog 80 #[v] w fun e w' => ∃ r, e = .returned r ∧ Rdf .u32 w' ok r xs ∧ Below w.heap.size w w' := by
  obtain ⟨i0, hi0, hz0, hz1, hz2⟩ := info_parts info_u32
  have H := Lib.hid h
  obtain ⟨A, c, rfl, _, hc⟩ := h
  clear hc
  have hr := H.out.reads.2
  cases A with
  | none =>
    have hxs : xs = [] := by
      obtain ⟨A', c', h1, _, h3⟩ := H.out
      rcases h3 with h3 | ⟨ad, h4, _⟩
      · exact h3
      · injection h1 with e1; rw [← e1] at h4; cases h4
    have HX := Lib.hid hxs
    have hq := fun (w : World) (n c : Nat) => Lib.run_eql_slice_nil (P := Try.prog) w 22 43 none n c 0 0 Try.underlying22
    go_enter Try.func80, Try.ntmps80
    go_wp2
    go_ret
    exact ⟨_, rfl, by rw [HX.out]; exact Rdf.nil _ _ _ _, Below.refl _ _⟩
  | some ad =>
    have hq := fun (w : World) (n c : Nat) => Lib.run_eql_slice_nil (P := Try.prog) w 22 43 (some ad) n c 0 0 Try.underlying22
    have hr2 := Lib.hid (hr.alloc (Nat.le_refl _) (.cells #[] 43))
    have hown := Lib.hid (World.ownsRow_lit (base := w.heap.size) (e := 43) (size := 1) w #[] 0 (Nat.le_refl _) (by simp [maxLen]) (by simp))
    clear hr
    go_enter Try.func80, Try.ntmps80
    go_wp2_with (first
      | (at_builtin
         refine wpList_append_any _ rfl (.tmp 5) (.tmp 6) _ rfl w.heap.size 43 i0 _ 1 4 Try.underlying22 hi0 hz0 hz1 hz2 rfl (by omega) (.slice (some ⟨w.heap.size, 0, none⟩) 0 0) 0 [] rfl
           hown.out w.heap.size (some ad) xs.length c (xs.map (Value.int .u32)) rfl hr2.out (one_ints _ _) (by simp only [maxLen]; omega) (by omega) (by simp) ?_
         intro v1 w1 hown1 hg1 hat1
         have hbw1 : Below w.heap.size w w1 := ((Below.refl _ _).alloc (Nat.le_refl _) _).grown hg1 (by simp) (by simp [Value.ownBlock])))
    go_ret
    simp only [List.nil_append, Nat.zero_add] at hown1
    exact ⟨v1, rfl, own_rdf hown1 hok, hbw1⟩
end Go.Proofs.Ytikpdkgamcecjaa
