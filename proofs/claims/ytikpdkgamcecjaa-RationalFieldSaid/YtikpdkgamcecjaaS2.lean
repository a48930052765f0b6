/- Walks: FromInt of the reference. -/
import Derived.Test.YtikpdkgamcecjaaS1
namespace Go.Proofs.Ytikpdkgamcecjaa
open Go.RowKit
set_option linter.unusedSimpArgs false
set_option linter.unusedVariables false

/-- build of canonical limbs. -/
theorem build_nat (ok : Nat → Prop) (neg : Bool) (v u : Value) (a b : Nat) (w : World) (hok : ∀ b, w.heap.size ≤ b → ok b) (hx : Rd .u32 w v (limbs a)) (hy : Rd .u32 w u (limbs b)) (nx : (limbs a).length ≤ 1000000) (ny : (limbs b).length ≤ 1000000) :
    Calls Try.prog 59 #[.bool neg, v, u] w fun e w' => ∃ z, e = .returned z ∧ RdRaw w' ok z (raw (mkRat (sg neg a) b)) ∧ Below w.heap.size w w' := by
  have h := build_any ok neg v u (limbs a) (limbs b) w hok hx hy (lb_u32 (lb_limbs a)) (lb_u32 (lb_limbs b)) nx ny
  rwa [val_limbs, val_limbs, Int.toNat_natCast, Int.toNat_natCast] at h
set_option maxRecDepth 100000 in
set_option maxHeartbeats 4000000 in
theorem rfromInt_any (ok : Nat → Prop) (n : Int) (w : World) (hok : ∀ b, w.heap.size ≤ b → ok b) (h1 : -9223372036854775808 ≤ n) (h2 : n ≤ 9223372036854775807) :
    Calls Try.prog 27 #[.int .i64 n] w fun e w' => ∃ z, e = .returned z ∧ RdRaw w' ok z (raw (n : Rat)) ∧ Below w.heap.size w w' := by
  have HOK := Lib.hid hok
  have HE := Lib.hid (mk_int n)
  clear hok
  by_cases hn : n < 0
  · have hlt : (n.natAbs : Int) < 18446744073709551616 := by omega
    have Q3 := Lib.hid (word_len hlt)
    have HL := Lib.hid (fun ok w hok => rlimbs_any ok n.natAbs w hok hlt)
    have hd : decide (n < 0) = true := by simpa using hn
    have hV : (n.natAbs : Int) = -(n + 1) + 1 := by omega
    rw [hd] at HE
    rw [hV] at HL
    clear hd hV hlt
    go_enter Try.func27, Try.ntmps27
    go_wp2_with fail
    refine (HL.out (fun x => ok x ∧ x ≠ w.heap.size) _ ?_).mono ?_
    · intro b hb
      simp at hb
      exact ⟨HOK.out b (by omega), by omega⟩
    rintro e w1 ⟨r1, rfl, hr1, hb1⟩
    have HR1 := Lib.hid hr1
    have HA := Lib.hid (bl_call (show Below w.heap.size w _ from bl_alloc (Below.refl _ _) (.cells #[.bool false, .slice none 0 0, .slice none 0 0] 24)) hb1)
    have G1 := Lib.hid (blk_below (blk_new w (.cells #[.bool false, .slice none 0 0, .slice none 0 0] 24)) hb1)
    clear hr1 hb1
    go_wp2_with fail
    refine (build_nat (fun x => ok x ∧ x ≠ w.heap.size) true _ _ n.natAbs 1 _ ?_ (HR1.out.below (bl_alloc (Below.refl _ _) _)).now (by rw [limbs_one]; exact (one_limb (ok := fun _ => True) _ _ _ rfl trivial).now) (by have := Q3.out; omega) (by rw [limbs_one]; simp)).mono ?_
    · intro b hb
      have h8 := HA.out.size
      have h9 := blk_lt G1.out
      simp at hb
      exact ⟨HOK.out b (by omega), by omega⟩
    rw [HE.out]
    rintro e w3 ⟨r3, rfl, ⟨n3, d3, rfl, hn3, hd3⟩, hv3⟩
    have HN3 := Lib.hid hn3
    have HD3 := Lib.hid hd3
    have HBV := Lib.hid (bl_call (bl_alloc HA.out _) hv3)
    have g := blk_below (blk_alloc G1.out _) hv3
    have m0 := blk_cell g 0
    have m1 := blk_cell g 1
    have m2 := blk_cell g 2
    have mf := blk_frozen g
    simp at m0 m1 m2
    obtain ⟨A11, c11, rfl, l7, l8⟩ := hn3.len
    obtain ⟨A12, c12, rfl, l9, l10⟩ := hd3.len
    clear hn3 hd3 hv3 g
    go_wp2_with fail
    refine bodyPost_ret (v := .agg #[.bool (raw (n : Rat)).neg, .slice A11 (raw (n : Rat)).num.length c11, .slice A12 (raw (n : Rat)).den.length c12]) (by simp [results, Try.results27, go_sem, m0, m1, m2]) rfl ⟨_, rfl, ?_, ?_⟩
    · refine ⟨_, _, rfl, ?_, ?_⟩
      · exact (((HN3.out.set (fun h => h.2 rfl) _).set (fun h => h.2 rfl) _).set (fun h => h.2 rfl) _).mono (fun b _ h => h.1)
      · exact (((HD3.out.set (fun h => h.2 rfl) _).set (fun h => h.2 rfl) _).set (fun h => h.2 rfl) _).mono (fun b _ h => h.1)
    · exact bl_set (bl_set (bl_set HBV.out (by simp <;> omega) _) (by simp <;> omega) _) (by simp <;> omega) _
  · have hlt : (n.natAbs : Int) < 18446744073709551616 := by omega
    have Q3 := Lib.hid (word_len hlt)
    have HL := Lib.hid (fun ok w hok => rlimbs_any ok n.natAbs w hok hlt)
    have hd : decide (n < 0) = false := by simpa using hn
    have hV : (n.natAbs : Int) = n := by omega
    rw [hd] at HE
    rw [hV] at HL
    clear hd hV hlt
    go_enter Try.func27, Try.ntmps27
    go_wp2_with fail
    refine (HL.out (fun x => ok x ∧ x ≠ w.heap.size) _ ?_).mono ?_
    · intro b hb
      simp at hb
      exact ⟨HOK.out b (by omega), by omega⟩
    rintro e w1 ⟨r1, rfl, hr1, hb1⟩
    have HR1 := Lib.hid hr1
    have HA := Lib.hid (bl_call (show Below w.heap.size w _ from bl_alloc (Below.refl _ _) (.cells #[.bool false, .slice none 0 0, .slice none 0 0] 24)) hb1)
    have G1 := Lib.hid (blk_below (blk_new w (.cells #[.bool false, .slice none 0 0, .slice none 0 0] 24)) hb1)
    clear hr1 hb1
    go_wp2_with fail
    refine (build_nat (fun x => ok x ∧ x ≠ w.heap.size) false _ _ n.natAbs 1 _ ?_ (HR1.out.below (bl_alloc (Below.refl _ _) _)).now (by rw [limbs_one]; exact (one_limb (ok := fun _ => True) _ _ _ rfl trivial).now) (by have := Q3.out; omega) (by rw [limbs_one]; simp)).mono ?_
    · intro b hb
      have h8 := HA.out.size
      have h9 := blk_lt G1.out
      simp at hb
      exact ⟨HOK.out b (by omega), by omega⟩
    rw [HE.out]
    rintro e w3 ⟨r3, rfl, ⟨n3, d3, rfl, hn3, hd3⟩, hv3⟩
    have HN3 := Lib.hid hn3
    have HD3 := Lib.hid hd3
    have HBV := Lib.hid (bl_call (bl_alloc HA.out _) hv3)
    have g := blk_below (blk_alloc G1.out _) hv3
    have m0 := blk_cell g 0
    have m1 := blk_cell g 1
    have m2 := blk_cell g 2
    have mf := blk_frozen g
    simp at m0 m1 m2
    obtain ⟨A11, c11, rfl, l7, l8⟩ := hn3.len
    obtain ⟨A12, c12, rfl, l9, l10⟩ := hd3.len
    clear hn3 hd3 hv3 g
    go_wp2_with fail
    refine bodyPost_ret (v := .agg #[.bool (raw (n : Rat)).neg, .slice A11 (raw (n : Rat)).num.length c11, .slice A12 (raw (n : Rat)).den.length c12]) (by simp [results, Try.results27, go_sem, m0, m1, m2]) rfl ⟨_, rfl, ?_, ?_⟩
    · refine ⟨_, _, rfl, ?_, ?_⟩
      · exact (((HN3.out.set (fun h => h.2 rfl) _).set (fun h => h.2 rfl) _).set (fun h => h.2 rfl) _).mono (fun b _ h => h.1)
      · exact (((HD3.out.set (fun h => h.2 rfl) _).set (fun h => h.2 rfl) _).set (fun h => h.2 rfl) _).mono (fun b _ h => h.1)
    · exact bl_set (bl_set (bl_set HBV.out (by simp <;> omega) _) (by simp <;> omega) _) (by simp <;> omega) _
end Go.Proofs.Ytikpdkgamcecjaa
