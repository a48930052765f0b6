/- Walks of the reference: natDiv whole, natGcd. -/
import Derived.Test.YtikpdkgamcecjaaN9
namespace Go.Proofs.Ytikpdkgamcecjaa
open Go.RowKit
set_option linter.unusedSimpArgs false
set_option linter.unusedVariables false

theorem rdiv_any (ok : Nat → Prop) (v u : Value) (a b : Nat) (w : World) (hok : ∀ b, w.heap.size ≤ b → ok b) (hx : Rd .u32 w v (limbs a)) (hy : Rd .u32 w u (limbs b)) (na : (limbs a).length ≤ 4000000) (nb : (limbs b).length ≤ 4000000) (hb : b ≠ 0) :
    Calls Try.prog 70 #[v, u] w fun e w' => ∃ q r, e = .returned (.tuple #[q, r]) ∧ Rdf .u32 w' ok q (limbs (a / b)) ∧ Rd .u32 w' r (limbs (a % b)) ∧ Below w.heap.size w w' := by
  by_cases h1 : a < b
  · refine (rdiv_less ok v u a b w hok hx hy (by omega) h1).mono ?_
    rintro e w' ⟨q, r, he, hq, hr, hbl⟩
    exact ⟨q, r, he, hq, hr.now, hbl⟩
  · by_cases h2 : b < 1000000000
    · refine (rdiv_one ok v u a b w hok hx hy (by omega) (by omega) hb h2).mono ?_
      rintro e w' ⟨q, r, he, hq, hr, hbl⟩
      exact ⟨q, r, he, hq, hr.now, hbl⟩
    · exact rdiv_long ok v u a b w hok hx hy na nb (by omega) (by omega)
set_option maxHeartbeats 4000000 in
theorem rgcd_any (v u : Value) (a b : Nat) (w : World) (hx : Rd .u32 w v (limbs a)) (hy : Rd .u32 w u (limbs b)) (hn : (limbs a).length ≤ 4000000) (hm : (limbs b).length ≤ 4000000) :
    Calls Try.prog 83 #[v, u] w fun e w' => ∃ r, e = .returned r ∧ Rd .u32 w' r (limbs (a.gcd b)) ∧ Below w.heap.size w w' := by
  have HX := Lib.hid hx
  have HY := Lib.hid hy
  obtain ⟨A, c1, rfl, ⟨l1, l2⟩, _⟩ := hx
  obtain ⟨A2, c2, rfl, ⟨l3, l4⟩, _⟩ := hy
  go_enter Try.func83, Try.ntmps83
  go_wp2
  go_loopg [0, 1, 5, 6] b (fun kq s0 s1 s5 s6 wr => ∃ x : Nat, Rd .u32 wr s0 (limbs x) ∧ Rd .u32 wr s1 (limbs kq) ∧ x.gcd kq = a.gcd b ∧ (limbs x).length ≤ 4000000 ∧ (limbs kq).length ≤ 4000000 ∧ Below w.heap.size w wr)
  case atStart => exact ⟨a, HX.out, HY.out, rfl, hn, hm, Below.refl _ _⟩
  case round =>
    obtain ⟨x, hx, hy, hg, hlx, hly, hb⟩ := hrel
    have HX1 := Lib.hid hx
    have HY1 := Lib.hid hy
    have HG := Lib.hid hg
    obtain ⟨B1, d1, rfl, _, _⟩ := hx
    obtain ⟨B2, d2, rfl, _, _⟩ := hy
    clear hg
    by_cases h0 : gk = 0
    · have HR := Lib.hid (show limbs x = limbs (a.gcd b) by rw [← HG.out, h0, Nat.gcd_zero_right])
      have t0 : (limbs gk).length = 0 := by rw [h0, limbs_zero]; rfl
      have t1 : decide (0 < (limbs gk).length) = false := by simp [t0]
      have HT0 := Lib.hid t0
      clear h0 t0
      go_wp2
      go_ret
      exact ⟨_, rfl, by rw [← HR.out]; exact HX1.out, hb⟩
    · have t1 : 0 < (limbs gk).length := by
        have : limbs gk ≠ [] := fun e => h0 (limbs_eq_nil.1 e)
        exact List.length_pos_iff.2 this
      have H0 := Lib.hid h0
      clear h0
      go_wp2_with fail
      refine (rdiv_any (fun _ => True) _ _ x gk _ (fun _ _ => trivial) HX1.out HY1.out hlx hly H0.out).mono ?_
      rintro e w1 ⟨q, r, rfl, hq, hr, hb1⟩
      have HR := Lib.hid hr
      have HY2 := Lib.hid (HY1.out.below hb1)
      have HB := Lib.hid (bl_call hb hb1)
      clear hq hr hb1
      go_wp2_with fail
      go_roundg (x % gk)
      case measure => exact Nat.mod_lt _ (Nat.pos_of_ne_zero H0.out)
      case rel => exact ⟨gk, HY2.out, HR.out, by rw [← HG.out, Nat.gcd_comm gk, ← Nat.gcd_rec, Nat.gcd_comm], hly, by have := limbs_mono (Nat.mod_le x gk); omega, HB.out⟩
end Go.Proofs.Ytikpdkgamcecjaa
