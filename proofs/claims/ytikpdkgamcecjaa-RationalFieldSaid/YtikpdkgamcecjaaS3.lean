/- Walks: Small of both sides, and awake. -/
import Derived.Test.YtikpdkgamcecjaaN15
namespace Go.Proofs.Ytikpdkgamcecjaa
open Go.RowKit
set_option linter.unusedSimpArgs false
set_option linter.unusedVariables false

theorem int_good (n : Int) (h1 : -9223372036854775808 ≤ n) (h2 : n ≤ 9223372036854775807) (L : Nat) (hL : 3 ≤ L) : Good L (raw (n : Rat)) :=
  good_int (Nat.le_trans (word_len (by omega)) hL) (by omega)
set_option maxRecDepth 100000 in
set_option maxHeartbeats 4000000 in
theorem small_any (ok : Nat → Prop) (a b : Int) (w : World) (hok : ∀ b, w.heap.size ≤ b → ok b) (ha1 : -9223372036854775808 ≤ a) (ha2 : a ≤ 9223372036854775807) (hb1 : -9223372036854775808 ≤ b) (hb2 : b ≤ 9223372036854775807) :
    Calls Try.prog 28 #[.int .i64 a, .int .i64 b] w fun e w' => ∃ z, e = .returned z ∧ RdRaw w' ok z (raw ((a : Rat) / (b : Rat))) ∧ Below w.heap.size w w' := by
  have HOK := Lib.hid hok
  have F1 := Lib.hid (fun w => fromInt_any (fun _ => True) a w (fun _ _ => trivial) ha1 ha2)
  have F2 := Lib.hid (fun w => fromInt_any (fun _ => True) b w (fun _ _ => trivial) hb1 hb2)
  have F3 := Lib.hid (fun ok v u w hok h1 h2 => Div_any ok v u (raw (a : Rat)) (raw (b : Rat)) w hok h1 h2 (int_good a ha1 ha2 _ (by omega)) (int_good b hb1 hb2 _ (by omega)))
  rw [qv_raw, qv_raw] at F3
  clear hok ha1 ha2 hb1 hb2
  go_enter Try.func28, Try.ntmps28
  go_wp2_with fail
  refine (F1.out _).mono ?_
  rintro e w1 ⟨z1, rfl, hz1, hb1⟩
  have Z1 := Lib.hid hz1.now
  have HA := Lib.hid (bl_call (show Below w.heap.size w _ from bl_alloc (Below.refl _ _) (.cells #[.bool false, .slice none 0 0, .slice none 0 0] 24)) hb1)
  have G1 := Lib.hid (blk_below (blk_new w (.cells #[.bool false, .slice none 0 0, .slice none 0 0] 24)) hb1)
  clear hz1 hb1
  go_wp2_with fail
  refine (F2.out _).mono ?_
  rintro e w2 ⟨z2, rfl, hz2, hb2⟩
  have Z2 := Lib.hid hz2.now
  have Z12 := Lib.hid (Z1.out.below hb2)
  have HA2 := Lib.hid (bl_call HA.out hb2)
  have G2 := Lib.hid (blk_below G1.out hb2)
  clear hz2 hb2
  go_wp2_with fail
  refine (F3.out (fun x => ok x ∧ x ≠ w.heap.size) _ _ _ ?_ Z12.out Z2.out).mono ?_
  · intro b hb
    have h8 := HA2.out.size
    have h9 := blk_lt G2.out
    exact ⟨HOK.out b (by omega), by omega⟩
  rintro e w3 ⟨z3, rfl, ⟨n3, d3, rfl, hn3, hd3⟩, hb3⟩
  have HN3 := Lib.hid hn3
  have HD3 := Lib.hid hd3
  have HA3 := Lib.hid (bl_call HA2.out hb3)
  have g := blk_below G2.out hb3
  obtain ⟨A11, c11, rfl, l7, l8⟩ := hn3.len
  obtain ⟨A12, c12, rfl, l9, l10⟩ := hd3.len
  have m0 := blk_cell g 0
  have m1 := blk_cell g 1
  have m2 := blk_cell g 2
  have mf := blk_frozen g
  have mz := blk_lt g
  simp at m0 m1 m2
  clear hn3 hd3 hb3
  go_wp2_with fail
  all_goals skip
  refine bodyPost_ret (v := .agg #[.bool (raw ((a : Rat) / (b : Rat))).neg, .slice A11 (raw ((a : Rat) / (b : Rat))).num.length c11, .slice A12 (raw ((a : Rat) / (b : Rat))).den.length c12]) (by simp [results, Try.results28, go_sem, m0, m1, m2, mz]) rfl ⟨_, rfl, ?_, ?_⟩
  · refine ⟨_, _, rfl, ?_, ?_⟩
    · exact ((((HN3.out.set (fun h => h.2 rfl) _).set (fun h => h.2 rfl) _).set (fun h => h.2 rfl) _).below (bl_alloc (Below.refl _ _) _)).mono (fun b _ h => h.1)
    · exact ((((HD3.out.set (fun h => h.2 rfl) _).set (fun h => h.2 rfl) _).set (fun h => h.2 rfl) _).below (bl_alloc (Below.refl _ _) _)).mono (fun b _ h => h.1)
  · exact bl_alloc (bl_set (bl_set (bl_set HA3.out (Nat.le_refl _) _) (Nat.le_refl _) _) (Nat.le_refl _) _) _
set_option maxRecDepth 100000 in
set_option maxHeartbeats 4000000 in
theorem rsmall_rat (ok : Nat → Prop) (a b : Int) (w : World) (hok : ∀ b, w.heap.size ≤ b → ok b) (ha1 : -9223372036854775808 ≤ a) (ha2 : a ≤ 9223372036854775807) (hb1 : -9223372036854775808 ≤ b) (hb2 : b ≤ 9223372036854775807) :
    Calls Try.prog 29 #[.int .i64 a, .int .i64 b] w fun e w' => ∃ z, e = .returned z ∧ RdRaw w' ok z (raw ((a : Rat) / (b : Rat))) ∧ Below w.heap.size w w' := by
  have HOK := Lib.hid hok
  have F1 := Lib.hid (fun w => rfromInt_any (fun _ => True) a w (fun _ _ => trivial) ha1 ha2)
  have F2 := Lib.hid (fun w => rfromInt_any (fun _ => True) b w (fun _ _ => trivial) hb1 hb2)
  have F3 := Lib.hid (fun ok v u w hok h1 h2 => rDiv_any ok v u (raw (a : Rat)) (raw (b : Rat)) w hok h1 h2 (int_good a ha1 ha2 _ (by omega)) (int_good b hb1 hb2 _ (by omega)))
  rw [qv_raw, qv_raw] at F3
  clear hok ha1 ha2 hb1 hb2
  go_enter Try.func29, Try.ntmps29
  go_wp2_with fail
  refine (F1.out _).mono ?_
  rintro e w1 ⟨z1, rfl, hz1, hb1⟩
  have Z1 := Lib.hid hz1.now
  have HA := Lib.hid (bl_call (show Below w.heap.size w _ from bl_alloc (Below.refl _ _) (.cells #[.bool false, .slice none 0 0, .slice none 0 0] 24)) hb1)
  have G1 := Lib.hid (blk_below (blk_new w (.cells #[.bool false, .slice none 0 0, .slice none 0 0] 24)) hb1)
  clear hz1 hb1
  go_wp2_with fail
  refine (F2.out _).mono ?_
  rintro e w2 ⟨z2, rfl, hz2, hb2⟩
  have Z2 := Lib.hid hz2.now
  have Z12 := Lib.hid (Z1.out.below hb2)
  have HA2 := Lib.hid (bl_call HA.out hb2)
  have G2 := Lib.hid (blk_below G1.out hb2)
  clear hz2 hb2
  go_wp2_with fail
  refine (F3.out (fun x => ok x ∧ x ≠ w.heap.size) _ _ _ ?_ Z12.out Z2.out).mono ?_
  · intro b hb
    have h8 := HA2.out.size
    have h9 := blk_lt G2.out
    exact ⟨HOK.out b (by omega), by omega⟩
  rintro e w3 ⟨z3, rfl, ⟨n3, d3, rfl, hn3, hd3⟩, hb3⟩
  have HN3 := Lib.hid hn3
  have HD3 := Lib.hid hd3
  have HA3 := Lib.hid (bl_call HA2.out hb3)
  have g := blk_below G2.out hb3
  obtain ⟨A11, c11, rfl, l7, l8⟩ := hn3.len
  obtain ⟨A12, c12, rfl, l9, l10⟩ := hd3.len
  have m0 := blk_cell g 0
  have m1 := blk_cell g 1
  have m2 := blk_cell g 2
  have mf := blk_frozen g
  have mz := blk_lt g
  simp at m0 m1 m2
  clear hn3 hd3 hb3
  go_wp2_with fail
  all_goals skip
  refine bodyPost_ret (v := .agg #[.bool (raw ((a : Rat) / (b : Rat))).neg, .slice A11 (raw ((a : Rat) / (b : Rat))).num.length c11, .slice A12 (raw ((a : Rat) / (b : Rat))).den.length c12]) (by simp [results, Try.results29, go_sem, m0, m1, m2, mz]) rfl ⟨_, rfl, ?_, ?_⟩
  · refine ⟨_, _, rfl, ?_, ?_⟩
    · exact ((((HN3.out.set (fun h => h.2 rfl) _).set (fun h => h.2 rfl) _).set (fun h => h.2 rfl) _).below (bl_alloc (Below.refl _ _) _)).mono (fun b _ h => h.1)
    · exact ((((HD3.out.set (fun h => h.2 rfl) _).set (fun h => h.2 rfl) _).set (fun h => h.2 rfl) _).below (bl_alloc (Below.refl _ _) _)).mono (fun b _ h => h.1)
  · exact bl_alloc (bl_set (bl_set (bl_set HA3.out (Nat.le_refl _) _) (Nat.le_refl _) _) (Nat.le_refl _) _) _
/-- A number built in place. -/
theorem lit_rat {W : World} {g g' : Nat} {t : TypeId} {x y : Int} {neg : Bool} (h : W.heap[g]? = some (.cells #[.int .u32 x] t (0, 0))) (h' : W.heap[g']? = some (.cells #[.int .u32 y] t (0, 0))) : RdR W (.agg #[.bool neg, .slice (some ⟨g, 0, none⟩) 1 1, .slice (some ⟨g', 0, none⟩) 1 1]) ⟨neg, [x], [y]⟩ := by
  have k : ∀ {g : Nat} {x : Int}, W.heap[g]? = some (.cells #[.int .u32 x] t (0, 0)) → Rdf .u32 W (fun _ => True) (.slice (some ⟨g, 0, none⟩) 1 1) [x] := fun {g x} h =>
    rdf_blk (xs := [x]) h rfl (by simp) (by simp) (fun j hj => by
      have : j = 0 := by simp at hj; exact hj
      subst this; rfl) trivial
  exact ⟨_, _, rfl, k h, k h'⟩
theorem awake_raw : raw (((6 : Int) : Rat) / ((-4 : Int) : Rat)) = ⟨true, [3], [2]⟩ := by
  have e : ((6 : Int) : Rat) / ((-4 : Int) : Rat) = mkRat (sg true 3) 2 := by decide +kernel
  rw [e, raw_made true 3 2 (by omega) (by omega)]
  have h1 : limbs (3 / Nat.gcd 3 2) = [3] := by rw [show 3 / Nat.gcd 3 2 = 3 from rfl, limbs_pos (by omega)]; simp [limbs_zero]
  have h2 : limbs (2 / Nat.gcd 3 2) = [2] := by rw [show 2 / Nat.gcd 3 2 = 2 from rfl, limbs_pos (by omega)]; simp [limbs_zero]
  rw [h1, h2]
set_option maxRecDepth 100000 in
set_option maxHeartbeats 4000000 in
theorem awake_any (w : World) : Calls Try.prog 23 #[] w fun e w' => e = .returned (.bool true) ∧ Below w.heap.size w w' := by
  have F := Lib.hid (fun w => small_any (fun _ => True) 6 (-4) w (fun _ _ => trivial) (by omega) (by omega) (by omega) (by omega))
  rw [awake_raw] at F
  go_enter Try.func23, Try.ntmps23
  go_wp2_with fail
  refine (F.out _).mono ?_
  rintro e w1 ⟨z1, rfl, hz1, hb1⟩
  have Z1 := Lib.hid hz1.now
  have HB := Lib.hid hb1
  clear hz1 hb1
  go_wp2_with fail
  refine (sameRat_yes _ _ ⟨true, [3], [2]⟩ _ (Z1.out.below (bl_alloc (bl_alloc (Below.refl _ _) _) _)) (lit_rat (t := 43) (blk_alloc (blk_new _ _) _) (blk_new' (by simp) _))).mono ?_
  rintro e w2 ⟨rfl, hb2⟩
  go_wp2_with fail
  go_ret
  exact ⟨rfl, bl_call (bl_alloc (bl_alloc HB.out _) _) hb2⟩
end Go.Proofs.Ytikpdkgamcecjaa
