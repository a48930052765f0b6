/- Walks: FromInt of the program and of the reference. -/
import Derived.Test.YtikpdkgamcecjaaM4
import Derived.Test.YtikpdkgamcecjaaN12
import Derived.IntWalk
namespace Go.Proofs.Ytikpdkgamcecjaa
open Go.RowKit
set_option linter.unusedSimpArgs false
set_option linter.unusedVariables false

/-- The three limbs of a word. -/
def three (V : Int) : List Int := [V.tmod 1000000000 % 4294967296, (IntKind.u64.wrap (V.tdiv 1000000000)).tmod 1000000000 % 4294967296, IntKind.u64.wrap ((IntKind.u64.wrap (V.tdiv 1000000000)).tdiv 1000000000) % 4294967296]
theorem u64_wrap_in (n : Int) (h0 : 0 ≤ n) (h1 : n < 18446744073709551616) : IntKind.u64.wrap n = n := by
  rw [IntKind.wrap_u64]; omega
theorem three_ok (a : Nat) (V : Int) (hV : V = a) (h1 : V < 18446744073709551616) : U32 (three V) ∧ (val (three V)).toNat = a := by
  subst hV
  have e1 : (a : Int).tdiv 1000000000 = a / 1000000000 := Int.tdiv_eq_ediv_of_nonneg (by omega)
  have e2 : (a : Int).tmod 1000000000 = a % 1000000000 := Int.tmod_eq_emod_of_nonneg (by omega)
  have e3 : ((a : Int) / 1000000000).tdiv 1000000000 = a / 1000000000 / 1000000000 := Int.tdiv_eq_ediv_of_nonneg (by omega)
  have e4 : ((a : Int) / 1000000000).tmod 1000000000 = a / 1000000000 % 1000000000 := Int.tmod_eq_emod_of_nonneg (by omega)
  have e5 : three (a : Int) = [(a : Int) % 1000000000, (a : Int) / 1000000000 % 1000000000, (a : Int) / 1000000000 / 1000000000] := by
    unfold three
    rw [e1, e2, u64_wrap_in _ (by omega) (by omega), e3, e4, u64_wrap_in _ (by omega) (by omega)]
    simp
    omega
  rw [e5]
  refine ⟨fun j hj => ?_, ?_⟩
  · rcases (show j = 0 ∨ j = 1 ∨ j = 2 by simp at hj; omega) with rfl | rfl | rfl <;> simp <;> omega
  · simp only [val]; omega
theorem three_rd {W : World} {g : Nat} {t : TypeId} {V : Int} (h : W.heap[g]? = some (.cells #[.int .u32 (V.tmod 1000000000 % 4294967296), .int .u32 ((IntKind.u64.wrap (V.tdiv 1000000000)).tmod 1000000000 % 4294967296), .int .u32 (IntKind.u64.wrap ((IntKind.u64.wrap (V.tdiv 1000000000)).tdiv 1000000000) % 4294967296)] t (0, 0))) : Rd .u32 W (.slice (some ⟨g, 0, none⟩) 3 3) (three V) :=
  rd_blk h rfl (by simp [three]) (by simp [three]) (fun j hj => by
    rcases (show j = 0 ∨ j = 1 ∨ j = 2 by simp [three] at hj; omega) with rfl | rfl | rfl <;> rfl)
/-- .. of a word that is not negative. -/
def tri (n : Int) : List Int := [n % 1000000000, n / 1000000000 % 1000000000, n / 1000000000 / 1000000000]
theorem tri_ok (n : Int) (h0 : 0 ≤ n) (h1 : n < 18446744073709551616) : U32 (tri n) ∧ (val (tri n)).toNat = n.natAbs := by
  unfold tri
  refine ⟨fun j hj => ?_, ?_⟩
  · rcases (show j = 0 ∨ j = 1 ∨ j = 2 by simp at hj; omega) with rfl | rfl | rfl <;> simp <;> omega
  · simp only [val]; omega
theorem tri_rd {W : World} {g : Nat} {t : TypeId} {V : Int} (h : W.heap[g]? = some (.cells #[.int .u32 (V % 1000000000), .int .u32 (V / 1000000000 % 1000000000), .int .u32 (V / 1000000000 / 1000000000)] t (0, 0))) : Rd .u32 W (.slice (some ⟨g, 0, none⟩) 3 3) (tri V) :=
  rd_blk h rfl (by simp [tri]) (by simp [tri]) (fun j hj => by
    rcases (show j = 0 ∨ j = 1 ∨ j = 2 by simp [tri] at hj; omega) with rfl | rfl | rfl <;> rfl)
theorem word_len {a : Nat} (h : (a : Int) < 18446744073709551616) : (limbs a).length ≤ 3 := limbs_len (by omega)
set_option maxRecDepth 100000 in
set_option maxHeartbeats 4000000 in
theorem fromInt_any (ok : Nat → Prop) (n : Int) (w : World) (hok : ∀ b, w.heap.size ≤ b → ok b) (h1 : -9223372036854775808 ≤ n) (h2 : n ≤ 9223372036854775807) :
    Calls Try.prog 26 #[.int .i64 n] w fun e w' => ∃ z, e = .returned z ∧ RdRaw w' ok z (raw (n : Rat)) ∧ Below w.heap.size w w' := by
  have HOK := Lib.hid hok
  have HE := Lib.hid (mk_int n)
  clear hok
  by_cases hn : n < 0
  · have hV : IntKind.u64.wrap (-IntKind.u64.wrap n) = (n.natAbs : Nat) := by rw [IntKind.wrap_u64, IntKind.wrap_u64]; omega
    have hlt : (n.natAbs : Int) < 18446744073709551616 := by omega
    obtain ⟨V, hVV⟩ : ∃ V, V = IntKind.u64.wrap (-IntKind.u64.wrap n) := ⟨_, rfl⟩
    obtain ⟨q1, q2⟩ := three_ok n.natAbs V (by rw [hVV, hV]) (by rw [hVV, hV]; exact hlt)
    have Q1 := Lib.hid q1
    have Q2 := Lib.hid q2
    have Q3 := Lib.hid (word_len hlt)
    have hd : decide (n < 0) = true := by simpa using hn
    rw [hd] at HE
    rw [hVV] at Q1 Q2
    clear hV hVV q1 q2 hlt hd
    go_enter Try.func26, Try.ntmps26
    go_wp2_with fail
    refine (norm_any (fun x => ok x ∧ x ≠ w.heap.size) _ (three (IntKind.u64.wrap (-IntKind.u64.wrap n))) _ ?_ (three_rd (t := 43) (blk_new' (by simp) _)) Q1.out (by simp [three])).mono ?_
    · intro b hb
      simp at hb
      exact ⟨HOK.out b (by omega), by omega⟩
    rw [Q2.out]
    rintro e w1 ⟨r1, rfl, hr1, hb1⟩
    have HR1 := Lib.hid hr1
    have HA := Lib.hid (bl_call (show Below w.heap.size w _ from bl_alloc (bl_alloc (Below.refl _ _) (.cells #[.bool false, .slice none 0 0, .slice none 0 0] 24)) _) hb1)
    have G1 := Lib.hid (blk_below (blk_alloc (blk_new w (.cells #[.bool false, .slice none 0 0, .slice none 0 0] 24)) _) hb1)
    clear hr1 hb1
    go_wp2_with fail
    refine (made_any (fun x => ok x ∧ x ≠ w.heap.size) true _ _ n.natAbs 1 _ ?_ (HR1.out.below (bl_alloc (Below.refl _ _) _)).now (by rw [limbs_one]; exact (one_limb (ok := fun _ => True) _ _ _ (by simp) trivial).now) (by omega) (by have := Q3.out; omega) (by rw [limbs_one]; simp)).mono ?_
    · intro b hb
      have h8 := HA.out.size
      have h9 := blk_lt G1.out
      simp at hb
      exact ⟨HOK.out b (by omega), by omega⟩
    rw [HE.out]
    rintro e w3 ⟨r3, rfl, ⟨n3, d3, rfl, hn3, hd3⟩, hv3⟩
    have HN3 := Lib.hid hn3
    have HD3 := Lib.hid hd3
    have HBV := Lib.hid (bl_call (bl_alloc HA.out _) hv3)
    have g := blk_below (blk_alloc G1.out _) hv3
    have m0 := blk_cell g 0
    have m1 := blk_cell g 1
    have m2 := blk_cell g 2
    have mf := blk_frozen g
    simp at m0 m1 m2
    obtain ⟨A11, c11, rfl, l7, l8⟩ := hn3.len
    obtain ⟨A12, c12, rfl, l9, l10⟩ := hd3.len
    clear hn3 hd3 hv3 g
    go_wp2_with fail
    refine bodyPost_ret (v := .agg #[.bool (raw (n : Rat)).neg, .slice A11 (raw (n : Rat)).num.length c11, .slice A12 (raw (n : Rat)).den.length c12]) (by simp [results, Try.results26, go_sem, m0, m1, m2]) rfl ⟨_, rfl, ?_, ?_⟩
    · refine ⟨_, _, rfl, ?_, ?_⟩
      · exact (((HN3.out.set (fun h => h.2 rfl) _).set (fun h => h.2 rfl) _).set (fun h => h.2 rfl) _).mono (fun b _ h => h.1)
      · exact (((HD3.out.set (fun h => h.2 rfl) _).set (fun h => h.2 rfl) _).set (fun h => h.2 rfl) _).mono (fun b _ h => h.1)
    · exact bl_set (bl_set (bl_set HBV.out (by simp <;> omega) _) (by simp <;> omega) _) (by simp <;> omega) _
  · have hV : IntKind.u64.wrap n = (n.natAbs : Nat) := by rw [IntKind.wrap_u64]; omega
    have hlt : (n.natAbs : Int) < 18446744073709551616 := by omega
    obtain ⟨q1, q2⟩ := tri_ok n (by omega) (by omega)
    have Q1 := Lib.hid q1
    have Q2 := Lib.hid q2
    have Q3 := Lib.hid (word_len hlt)
    have hd : decide (n < 0) = false := by simpa using hn
    rw [hd] at HE
    clear hV q1 q2 hlt hd
    go_enter Try.func26, Try.ntmps26
    go_wp2_with fail
    refine (norm_any (fun x => ok x ∧ x ≠ w.heap.size) _ (tri n) _ ?_ (tri_rd (t := 43) (blk_new' (by simp) _)) Q1.out (by simp [tri])).mono ?_
    · intro b hb
      simp at hb
      exact ⟨HOK.out b (by omega), by omega⟩
    rw [Q2.out]
    rintro e w1 ⟨r1, rfl, hr1, hb1⟩
    have HR1 := Lib.hid hr1
    have HA := Lib.hid (bl_call (show Below w.heap.size w _ from bl_alloc (bl_alloc (Below.refl _ _) (.cells #[.bool false, .slice none 0 0, .slice none 0 0] 24)) _) hb1)
    have G1 := Lib.hid (blk_below (blk_alloc (blk_new w (.cells #[.bool false, .slice none 0 0, .slice none 0 0] 24)) _) hb1)
    clear hr1 hb1
    go_wp2_with fail
    refine (made_any (fun x => ok x ∧ x ≠ w.heap.size) false _ _ n.natAbs 1 _ ?_ (HR1.out.below (bl_alloc (Below.refl _ _) _)).now (by rw [limbs_one]; exact (one_limb (ok := fun _ => True) _ _ _ (by simp) trivial).now) (by omega) (by have := Q3.out; omega) (by rw [limbs_one]; simp)).mono ?_
    · intro b hb
      have h8 := HA.out.size
      have h9 := blk_lt G1.out
      simp at hb
      exact ⟨HOK.out b (by omega), by omega⟩
    rw [HE.out]
    rintro e w3 ⟨r3, rfl, ⟨n3, d3, rfl, hn3, hd3⟩, hv3⟩
    have HN3 := Lib.hid hn3
    have HD3 := Lib.hid hd3
    have HBV := Lib.hid (bl_call (bl_alloc HA.out _) hv3)
    have g := blk_below (blk_alloc G1.out _) hv3
    have m0 := blk_cell g 0
    have m1 := blk_cell g 1
    have m2 := blk_cell g 2
    have mf := blk_frozen g
    simp at m0 m1 m2
    obtain ⟨A11, c11, rfl, l7, l8⟩ := hn3.len
    obtain ⟨A12, c12, rfl, l9, l10⟩ := hd3.len
    clear hn3 hd3 hv3 g
    go_wp2_with fail
    refine bodyPost_ret (v := .agg #[.bool (raw (n : Rat)).neg, .slice A11 (raw (n : Rat)).num.length c11, .slice A12 (raw (n : Rat)).den.length c12]) (by simp [results, Try.results26, go_sem, m0, m1, m2]) rfl ⟨_, rfl, ?_, ?_⟩
    · refine ⟨_, _, rfl, ?_, ?_⟩
      · exact (((HN3.out.set (fun h => h.2 rfl) _).set (fun h => h.2 rfl) _).set (fun h => h.2 rfl) _).mono (fun b _ h => h.1)
      · exact (((HD3.out.set (fun h => h.2 rfl) _).set (fun h => h.2 rfl) _).set (fun h => h.2 rfl) _).mono (fun b _ h => h.1)
    · exact bl_set (bl_set (bl_set HBV.out (by simp <;> omega) _) (by simp <;> omega) _) (by simp <;> omega) _
end Go.Proofs.Ytikpdkgamcecjaa
