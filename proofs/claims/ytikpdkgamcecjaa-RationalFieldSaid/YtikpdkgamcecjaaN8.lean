/- Walks of the reference: natDiv. -/
import Derived.Test.YtikpdkgamcecjaaN7
namespace Go.Proofs.Ytikpdkgamcecjaa
open Go.RowKit
set_option linter.unusedSimpArgs false
set_option linter.unusedVariables false

theorem rmul_nat (ok : Nat → Prop) (v u : Value) (a b : Nat) (w : World) (hok : ∀ b, w.heap.size ≤ b → ok b) (hx : Rd .u32 w v (limbs a)) (hy : Rd .u32 w u (limbs b)) (nx : (limbs a).length ≤ 8388608) (ny : (limbs b).length ≤ 8388608) :
    Calls Try.prog 60 #[v, u] w fun e w' => ∃ r, e = .returned r ∧ Rdf .u32 w' ok r (limbs (a * b)) ∧ Below w.heap.size w w' := by
  have h := rmul_any ok v u (limbs a) (limbs b) w hok hx hy (lb_limbs a) (lb_limbs b) nx ny
  have e : (val (limbs a) * val (limbs b)).toNat = a * b := by
    rw [val_limbs, val_limbs, ← Int.natCast_mul, Int.toNat_natCast]
  rwa [e] at h
theorem rsub_nat (ok : Nat → Prop) (v u : Value) (a b : Nat) (w : World) (hok : ∀ b, w.heap.size ≤ b → ok b) (hx : Rd .u32 w v (limbs a)) (hy : Rd .u32 w u (limbs b)) (nx : (limbs a).length ≤ 16777216) (hab : b ≤ a) :
    Calls Try.prog 74 #[v, u] w fun e w' => ∃ r, e = .returned r ∧ Rdf .u32 w' ok r (limbs (a - b)) ∧ Below w.heap.size w w' := by
  have h := rsub_any ok v u (limbs a) (limbs b) w hok hx hy (lb_limbs a) (lb_limbs b) nx (limbs_mono hab) (by rw [val_limbs, val_limbs]; omega)
  have e : (val (limbs a) - val (limbs b)).toNat = a - b := by
    rw [val_limbs, val_limbs]; omega
  rwa [e] at h
theorem rcut_nat (ok : Nat → Prop) (v : Value) (a : Nat) (w : World) (hok : ∀ b, w.heap.size ≤ b → ok b) (hx : Rd .u32 w v (limbs a)) (nx : (limbs a).length ≤ 16777216) :
    Calls Try.prog 84 #[v] w fun e w' => ∃ r, e = .returned r ∧ Rdf .u32 w' ok r (limbs a) ∧ Below w.heap.size w w' := by
  have h := rcut_any ok v (limbs a) w hok hx (lb_limbs a) (by omega)
  rwa [val_limbs, Int.toNat_natCast] at h

theorem rsmall_nat (ok : Nat → Prop) (v : Value) (a d : Nat) (w : World) (hok : ∀ b, w.heap.size ≤ b → ok b) (h : Rd .u32 w v (limbs a)) (hd : 1 ≤ d ∧ d < 1000000000) (hn : (limbs a).length ≤ 16777216) :
    Calls Try.prog 88 #[v, .int .u64 d] w fun e w' => ∃ r, e = .returned (.tuple #[r, .int .u64 ((a % d : Nat) : Int)]) ∧ Rdf .u32 w' ok r (limbs (a / d)) ∧ Below w.heap.size w w' := by
  have h2 := rsmall_any ok v (limbs a) (d : Int) w hok h (lb_limbs a) ⟨by omega, by omega⟩ hn
  rw [val_limbs] at h2
  have e1 : ((a : Int) % (d : Int)) = ((a % d : Nat) : Int) := by omega
  have e2 : ((a : Int) / (d : Int)).toNat = a / d := by
    rw [← Int.natCast_ediv, Int.toNat_natCast]
  rw [e1, e2] at h2
  exact h2
set_option maxHeartbeats 4000000 in
theorem rdiv_less (ok : Nat → Prop) (v u : Value) (a b : Nat) (w : World) (hok : ∀ b, w.heap.size ≤ b → ok b) (hx : Rd .u32 w v (limbs a)) (hy : Rd .u32 w u (limbs b)) (na : (limbs a).length ≤ 16777216) (hlt : a < b) :
    Calls Try.prog 70 #[v, u] w fun e w' => ∃ q r, e = .returned (.tuple #[q, r]) ∧ Rdf .u32 w' ok q (limbs (a / b)) ∧ Rdf .u32 w' ok r (limbs (a % b)) ∧ Below w.heap.size w w' := by
  have HX := Lib.hid hx
  have HY := Lib.hid hy
  have HOK := Lib.hid hok
  have HE := Lib.hid (show a / b = 0 ∧ a % b = a from ⟨Nat.div_eq_of_lt hlt, Nat.mod_eq_of_lt hlt⟩)
  have HC := Lib.hid (show cmpZ a b = -1 by unfold cmpZ; rw [if_pos (by omega)])
  obtain ⟨A, c1, rfl, l1, _⟩ := hx
  obtain ⟨A2, c2, rfl, l2, _⟩ := hy
  clear hok hlt
  go_enter Try.func70, Try.ntmps70
  go_wp2_with fail
  refine (rcmp_any _ _ a b w HX.out HY.out).mono ?_
  rw [HC.out]
  rintro e w1 ⟨rfl, hb1⟩
  have HB1 := Lib.hid hb1
  have z1 := hb1.size
  clear hb1
  go_wp2_with fail
  refine (rcut_nat ok _ a _ (fun b h => HOK.out b (by omega)) (HX.out.below HB1.out) na).mono ?_
  rintro e w2 ⟨r, rfl, hr, hb2⟩
  have HR := Lib.hid hr
  clear hr
  go_wp2_with fail
  go_ret2
  exact ⟨_, r, rfl, by rw [HE.out.1, limbs_zero]; exact Rdf.nil _ _ _ _, by rw [HE.out.2]; exact HR.out, bl_call HB1.out hb2⟩
set_option maxHeartbeats 4000000 in
theorem rdiv_one (ok : Nat → Prop) (v u : Value) (a b : Nat) (w : World) (hok : ∀ b, w.heap.size ≤ b → ok b) (hx : Rd .u32 w v (limbs a)) (hy : Rd .u32 w u (limbs b)) (na : (limbs a).length ≤ 16777216) (hle : b ≤ a) (hb0 : b ≠ 0) (hb1 : b < 1000000000) :
    Calls Try.prog 70 #[v, u] w fun e w' => ∃ q r, e = .returned (.tuple #[q, r]) ∧ Rdf .u32 w' ok q (limbs (a / b)) ∧ Rdf .u32 w' ok r (limbs (a % b)) ∧ Below w.heap.size w w' := by
  have HX := Lib.hid hx
  have HY := Lib.hid hy
  have HOK := Lib.hid hok
  have hlb : limbs b = [(b : Int)] := by
    rw [limbs_pos hb0, Nat.mod_eq_of_lt hb1, Nat.div_eq_of_lt hb1, limbs_zero]
  obtain ⟨z, hz⟩ : ∃ z, z = cmpZ a b := ⟨_, rfl⟩
  have hz0 : 0 ≤ z := by rw [hz]; unfold cmpZ; rw [if_neg (by omega)]; split <;> omega
  have HCC := Lib.hid (fun W v u h h' => rcmp_any v u a b W h h')
  rw [← hz] at HCC
  have HYB := Lib.hid hy
  obtain ⟨A, c1, rfl, l1, _⟩ := hx
  obtain ⟨A2, c2, rfl, l2, x2⟩ := hy
  rw [hlb] at x2 l2
  obtain ⟨ad, rfl, hcell⟩ := x2.resolve_left (by simp)
  have hc0 : w.cell? (ad.add 0) = some (.int .u32 b) := hcell 0 (by simp)
  have hc1 : w.cell? ad = some (.int .u32 b) := by
    have e9 : ad.add 0 = ad := by unfold Addr.add; simp
    rw [e9] at hc0; exact hc0
  have e1 : (limbs b).length = 1 := by rw [hlb]; rfl
  rw [e1] at HYB ⊢
  have HR := Lib.hid (show a % b < 1000000000 from Nat.lt_trans (Nat.mod_lt _ (by omega)) hb1)
  have hs := fun W v hok hv => rsmall_nat ok v a b W hok hv ⟨by omega, hb1⟩ na
  obtain ⟨bz, hbz⟩ : ∃ z : Int, z = (b : Int) := ⟨_, rfl⟩
  have q1 : (0 : Int) ≤ bz := by omega
  have q2 : bz < 1000000000 := by omega
  rw [← hbz] at hc0 hc1 hs
  have HSM := Lib.hid hs
  clear hs hbz
  clear hok hz hle hb0 hb1 hlb x2 hcell e1 HY
  go_enter Try.func70, Try.ntmps70
  go_wp2_with fail
  refine (HCC.out w _ _ HX.out HYB.out).mono ?_
  rintro e w1 ⟨rfl, hb1⟩
  have HB1 := Lib.hid hb1
  have z1 := hb1.size
  have d0 : w1.cell? (ad.add 0) = some (.int .u32 bz) := (hb1.cell (World.block_lt_of_cell? w _ hc0)).trans hc0
  have d1 : w1.cell? ad = some (.int .u32 bz) := (hb1.cell (World.block_lt_of_cell? w _ hc1)).trans hc1
  clear hb1
  go_wp2_with fail
  refine (HSM.out _ _ (fun x h => HOK.out x (by omega)) (HX.out.below HB1.out)).mono ?_
  rintro e w2 ⟨r, rfl, hr, hb2⟩
  have HR2 := Lib.hid hr
  have HB2 := Lib.hid hb2
  have z2 := hb2.size
  clear hr hb2
  go_wp2_with fail
  refine (rlimbs_any ok (a % b) _ (fun x h => HOK.out x (by omega)) (by have := HR.out; omega)).mono ?_
  rintro e w3 ⟨r3, rfl, hr3, hb3⟩
  have HR3 := Lib.hid hr3
  clear hr3
  go_wp2_with fail
  go_ret2
  exact ⟨r, r3, rfl, HR2.out.below hb3, HR3.out, bl_call (bl_call HB1.out HB2.out) hb3⟩
end Go.Proofs.Ytikpdkgamcecjaa
