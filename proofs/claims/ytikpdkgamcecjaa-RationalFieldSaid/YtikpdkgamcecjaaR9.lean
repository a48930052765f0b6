/- Walks: div. -/
import Derived.Test.YtikpdkgamcecjaaR8
import Derived.Test.YtikpdkgamcecjaaM2
namespace Go.Proofs.Ytikpdkgamcecjaa
open Go.RowKit
set_option linter.unusedSimpArgs false
set_option linter.unusedVariables false

theorem one_limb (W : World) (t : TypeId) (x : Int) {ok : Nat → Prop} {g : Nat} (hg : g = W.heap.size) (hok : ok g) : Rdf .u32 (W.alloc (.cells #[.int .u32 x] t)) ok (.slice (some ⟨g, 0, none⟩) 1 1) [x] := by
  subst hg
  refine rdf_blk (blk_new W _) rfl (by simp) (by simp) (fun j hj => ?_) hok
  have : j = 0 := by simp at hj; exact hj
  subst this; rfl
/-- The first branch: the dividend is less. -/
theorem div_less (ok : Nat → Prop) (v u : Value) (a b : Nat) (w : World) (hx : Rdf .u32 w ok v (limbs a)) (hy : Rdf .u32 w ok u (limbs b)) (hlt : a < b) :
    Calls Try.prog 68 #[v, u] w fun e w' => ∃ q r, e = .returned (.tuple #[q, r]) ∧ Rdf .u32 w' ok q (limbs (a / b)) ∧ Rdf .u32 w' ok r (limbs (a % b)) ∧ Below w.heap.size w w' := by
  have HX := Lib.hid hx
  have HY := Lib.hid hy
  have hc : cmpZ a b = -1 := by unfold cmpZ; rw [if_pos (by omega)]
  clear hx hy
  go_enter Try.func68, Try.ntmps68
  go_wp2_with (go_at_call 72; refine (cmp_any _ _ a b _ HX.out.now HY.out.now).mono ?_; rw [hc]; rintro e w1 ⟨rfl, hb⟩)
  go_ret2
  refine ⟨_, _, rfl, ?_, ?_, hb⟩
  · rw [Nat.div_eq_of_lt hlt, limbs_zero]; exact Rdf.nil _ _ _ _
  · rw [Nat.mod_eq_of_lt hlt]; exact HX.out.below hb
set_option maxHeartbeats 2000000 in
/-- The second one: the divisor is one limb. -/
theorem div_one (ok : Nat → Prop) (v u : Value) (a b : Nat) (w : World) (hok : ∀ b, w.heap.size ≤ b → ok b) (hx : Rdf .u32 w ok v (limbs a)) (hy : Rdf .u32 w ok u (limbs b)) (hlt : ¬ a < b) (hb1 : 1 ≤ b) (hb2 : b < 1000000000) (hn : (limbs a).length ≤ 16777216) :
    Calls Try.prog 68 #[v, u] w fun e w' => ∃ q r, e = .returned (.tuple #[q, r]) ∧ Rdf .u32 w' ok q (limbs (a / b)) ∧ Rdf .u32 w' ok r (limbs (a % b)) ∧ Below w.heap.size w w' := by
  have HX := Lib.hid hx
  have HY := Lib.hid hy
  have HOK := Lib.hid hok
  have hc : cmpZ a b = 0 ∨ cmpZ a b = 1 := by
    unfold cmpZ; rw [if_neg (by omega)]
    by_cases h : (b : Int) < a
    · right; rw [if_pos h]
    · left; rw [if_neg h]
  have hlb : limbs b = [(b : Int)] := by
    rw [limbs_pos (by omega), Nat.div_eq_of_lt hb2, limbs_zero, Nat.mod_eq_of_lt hb2]
  rw [hlb] at hy
  obtain ⟨A2, c2, rfl, ⟨l3, l4⟩, hcl⟩ := hy.now
  obtain ⟨ad, rfl, hcell⟩ := hcl.resolve_left (by simp)
  have hb0 := hcell 0 (by simp)
  have ha0 : ad.add 0 = ad := by simp [Addr.add]
  rw [ha0] at hb0
  simp only [List.length_singleton, List.getD_cons_zero] at hb0 l3 l4
  have HDS := Lib.hid (fun (ok : Nat → Prop) (W : World) (h1 : ∀ b, W.heap.size ≤ b → ok b) (h2 : Rd .u32 W v (limbs a)) => divSmall_any ok v (limbs a) b W h1 h2 (lb_limbs a) ⟨by omega, by omega⟩ hn)
  clear hx hy hok hcl hcell hlt
  rcases hc with hc | hc
  all_goals
    go_enter Try.func68, Try.ntmps68
    go_wp2_with fail
    refine (cmp_any _ _ a b _ HX.out.now HY.out.now).mono ?_
    rw [hc]
    rintro e w1 ⟨rfl, hb⟩
    have hb0' := (hb.cell (World.block_lt_of_cell? w _ hb0)).trans hb0
    go_wp2_with fail
    refine (HDS.out ok w1 (fun b h => HOK.out b (Nat.le_trans hb.size h)) (HX.out.now.below hb)).mono ?_
    rintro e w2 ⟨q, rfl, hq, hb2⟩
    have HQ := Lib.hid hq
    have HB2 := Lib.hid (bl_call hb hb2)
    clear hq hb2 hb0' hb
    rw [val_limbs]
    go_wp2_with fail
    refine (trim_any ok _ [((a : Int) % b)] _ ?_ ?_).mono ?_
    · exact one_limb _ _ _ rfl (HOK.out _ HB2.out.size)
    · rw [lb_cons]
      have h1 := Int.emod_nonneg (a : Int) (show (b : Int) ≠ 0 by omega)
      have h2 := Int.emod_lt_of_pos (a : Int) (show 0 < (b : Int) by omega)
      exact ⟨⟨by omega, by omega⟩, lb_nil⟩
    · rintro e w3 ⟨r, rfl, hr, rfl⟩
      go_wp2_with fail
      go_ret2
      refine ⟨_, _, rfl, ?_, ?_, bl_alloc HB2.out _⟩
      · have h9 := HQ.out
        rw [val_limbs] at h9
        rw [show (((a : Int) / b).toNat) = a / b by rw [← Int.natCast_ediv]; exact Int.toNat_natCast _] at h9
        exact h9.below (bl_alloc (Below.refl _ _) _)
      · simp only [val, Int.mul_zero, Int.add_zero] at hr
        rw [show (((a : Int) % b).toNat) = a % b by rw [← Int.natCast_emod]; exact Int.toNat_natCast _] at hr
        exact hr
end Go.Proofs.Ytikpdkgamcecjaa
