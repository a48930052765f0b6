/- Walks: div whole, gcd, made. -/
import Derived.Test.YtikpdkgamcecjaaR10
import Derived.Test.YtikpdkgamcecjaaM3
import Derived.Deep.LoopGhost
namespace Go.Proofs.Ytikpdkgamcecjaa
open Go.RowKit
set_option linter.unusedSimpArgs false
set_option linter.unusedVariables false

theorem div_any (ok : Nat → Prop) (v u : Value) (a b : Nat) (w : World) (hok : ∀ b, w.heap.size ≤ b → ok b) (hx : Rdf .u32 w ok v (limbs a)) (hy : Rdf .u32 w ok u (limbs b)) (hb : b ≠ 0) (hn : (limbs a).length ≤ 16777216) :
    Calls Try.prog 68 #[v, u] w fun e w' => ∃ q r, e = .returned (.tuple #[q, r]) ∧ Rdf .u32 w' ok q (limbs (a / b)) ∧ Rdf .u32 w' ok r (limbs (a % b)) ∧ Below w.heap.size w w' := by
  by_cases h1 : a < b
  · exact div_less ok v u a b w hx hy h1
  · by_cases h2 : b < 1000000000
    · exact div_one ok v u a b w hok hx hy h1 (by omega) h2 hn
    · exact div_long ok v u a b w hok hx hy h1 (by omega) hn

set_option maxHeartbeats 2000000 in
theorem gcd_any (ok : Nat → Prop) (v u : Value) (a b : Nat) (w : World) (hok : ∀ b, w.heap.size ≤ b → ok b) (hx : Rdf .u32 w ok v (limbs a)) (hy : Rdf .u32 w ok u (limbs b)) (hn : (limbs a).length ≤ 16777216) (hm : (limbs b).length ≤ 16777216) :
    Calls Try.prog 79 #[v, u] w fun e w' => ∃ r, e = .returned r ∧ Rdf .u32 w' ok r (limbs (a.gcd b)) ∧ Below w.heap.size w w' := by
  have HX := Lib.hid hx
  have HY := Lib.hid hy
  have HOK := Lib.hid hok
  obtain ⟨A, c1, rfl, ⟨l1, l2⟩, _⟩ := hx.now
  obtain ⟨A2, c2, rfl, ⟨l3, l4⟩, _⟩ := hy.now
  clear hx hy hok
  go_enter Try.func79, Try.ntmps79
  go_wp2
  go_loopg [0, 1, 5, 6] b (fun kq s0 s1 s5 s6 wr => ∃ x : Nat, Rdf .u32 wr ok s0 (limbs x) ∧ Rdf .u32 wr ok s1 (limbs kq) ∧ x.gcd kq = a.gcd b ∧ (limbs x).length ≤ 16777216 ∧ (limbs kq).length ≤ 16777216 ∧ Below w.heap.size w wr)
  case atStart => exact ⟨a, HX.out, HY.out, rfl, hn, hm, Below.refl _ _⟩
  case round =>
    obtain ⟨x, hx, hy, hg, hlx, hly, hb⟩ := hrel
    have HX1 := Lib.hid hx
    have HY1 := Lib.hid hy
    have HG := Lib.hid hg
    obtain ⟨B1, d1, rfl, _, _⟩ := hx.now
    obtain ⟨B2, d2, rfl, _, _⟩ := hy.now
    clear hx hy hg
    by_cases h0 : gk = 0
    · have HR := Lib.hid (show limbs x = limbs (a.gcd b) by rw [← HG.out, h0, Nat.gcd_zero_right])
      have t0 : (limbs gk).length = 0 := by rw [h0, limbs_zero]; rfl
      have t1 : decide (0 < (limbs gk).length) = false := by simp [t0]
      have HT0 := Lib.hid t0
      clear h0 t0
      go_wp2
      go_ret
      exact ⟨_, rfl, by rw [← HR.out]; exact HX1.out, hb⟩
    · have t1 : 0 < (limbs gk).length := by
        have : limbs gk ≠ [] := fun e => h0 (limbs_eq_nil.1 e)
        exact List.length_pos_iff.2 this
      have H0 := Lib.hid h0
      clear h0
      go_wp2_with fail
      refine (div_any ok _ _ x gk _ (fun y h => HOK.out y (Nat.le_trans hb.size h)) HX1.out HY1.out H0.out hlx).mono ?_
      rintro e w1 ⟨q, r, rfl, hq, hr, hb1⟩
      have HR := Lib.hid hr
      have HY2 := Lib.hid (HY1.out.below hb1)
      have HB := Lib.hid (bl_call hb hb1)
      clear hq hr hb1
      go_wp2_with fail
      go_roundg (x % gk)
      case measure => exact Nat.mod_lt _ (Nat.pos_of_ne_zero H0.out)
      case rel => exact ⟨gk, HY2.out, HR.out, by rw [← HG.out, Nat.gcd_comm gk, ← Nat.gcd_rec, Nat.gcd_comm], hly, by have := limbs_mono (Nat.mod_le x gk); omega, HB.out⟩
end Go.Proofs.Ytikpdkgamcecjaa
