/- The walk of the statement RationalOrder. -/
import Derived.Test.YtikpdkgamcecjaaC2
import Derived.Test.YtikpdkgamcecjaaT2
import Derived.Deep.RegionHeld3
import Derived.Deep.DeepCutAuto
import Derived.Deep.CutBlock
import Derived.Deep.Light
namespace Go.Proofs.Ytikpdkgamcecjaa
open Go.RowKit
set_option linter.unusedSimpArgs false
set_option linter.unusedVariables false

theorem ord_back (x y : Rat) : sgnZ (y - x) = - sgnZ (x - y) := by rw [← sgnZ_neg, Rat.neg_sub]
theorem ord_zero (x y : Rat) : sgnZ (x - y) = 0 ↔ x = y := by
  rw [sgnZ_zero]; constructor <;> intro h <;> grind
theorem ord_trans (x y z : Rat) (h1 : sgnZ (x - y) ≤ 0) (h2 : sgnZ (y - z) ≤ 0) : sgnZ (x - z) ≤ 0 := by
  have a1 : ¬ 0 < x - y := fun h => by have := sgnZ_pos.2 h; omega
  have a2 : ¬ 0 < y - z := fun h => by have := sgnZ_pos.2 h; omega
  have a3 : ¬ 0 < x - z := by grind
  have := @sgnZ_pos (x - z)
  have a4 : ¬ 0 < sgnZ (x - z) := fun h => a3 (this.1 h)
  omega
theorem ord_mul (x y z : Rat) (h : 0 < sgnZ z) : sgnZ (x * z - y * z) = sgnZ (x - y) := by
  have hz : 0 < z := sgnZ_pos.1 h
  have e : x * z - y * z = z * (x - y) := by grind
  rw [e]
  apply sgnZ_of
  · constructor
    · intro h
      have := @Rat.mul_lt_mul_left 0 (x - y) z hz
      rw [Rat.mul_zero] at this
      exact this.1 h
    · intro h
      exact Rat.mul_pos hz h
  · have := @Rat.mul_lt_mul_left (x - y) 0 z hz
    rw [Rat.mul_zero] at this
    exact this
theorem ord_add (x y z : Rat) : sgnZ (x + z - (y + z)) = sgnZ (x - y) := by congr 1; grind
set_option maxRecDepth 100000 in
set_option maxHeartbeats 8000000 in
theorem RationalOrder_walk (v1 : Value) (r1 : Raw) (v2 : Value) (r2 : Raw) (v3 : Value) (r3 : Raw) (w : World) (h1 : RdU w v1 r1) (h2 : RdU w v2 r2) (h3 : RdU w v3 r3) :
    Calls Try.prog 12 #[v1, v2, v3] w fun e w' => e = .returned (.bool true) ∧ Below w.heap.size w w' := by
  have K1 := Lib.hid (fun (W2 : World) (hb : Below w.heap.size w W2) => keepRat_any v1 r1 W2 (h1.1.below hb))
  have S1 := Lib.hid (fun (W2 : World) (hb : Below w.heap.size w W2) (h : smallB r1 = true) => (Num.of h1.1 (small_good h h1.2.1 h1.2.2)).below hb)
  obtain ⟨b1, A1, n1, c1, B1, m1, e1, rfl⟩ := rdR_shape h1.1
  obtain ⟨s1, hs1⟩ : ∃ s, s = smallB r1 := ⟨_, rfl⟩
  obtain ⟨X1, hX1⟩ : ∃ X, X = qv r1 := ⟨_, rfl⟩
  rw [← hs1] at K1 S1
  rw [← hX1] at S1
  clear hs1 hX1 h1
  have K2 := Lib.hid (fun (W2 : World) (hb : Below w.heap.size w W2) => keepRat_any v2 r2 W2 (h2.1.below hb))
  have S2 := Lib.hid (fun (W2 : World) (hb : Below w.heap.size w W2) (h : smallB r2 = true) => (Num.of h2.1 (small_good h h2.2.1 h2.2.2)).below hb)
  obtain ⟨b2, A2, n2, c2, B2, m2, e2, rfl⟩ := rdR_shape h2.1
  obtain ⟨s2, hs2⟩ : ∃ s, s = smallB r2 := ⟨_, rfl⟩
  obtain ⟨X2, hX2⟩ : ∃ X, X = qv r2 := ⟨_, rfl⟩
  rw [← hs2] at K2 S2
  rw [← hX2] at S2
  clear hs2 hX2 h2
  have K3 := Lib.hid (fun (W2 : World) (hb : Below w.heap.size w W2) => keepRat_any v3 r3 W2 (h3.1.below hb))
  have S3 := Lib.hid (fun (W2 : World) (hb : Below w.heap.size w W2) (h : smallB r3 = true) => (Num.of h3.1 (small_good h h3.2.1 h3.2.2)).below hb)
  obtain ⟨b3, A3, n3, c3, B3, m3, e3, rfl⟩ := rdR_shape h3.1
  obtain ⟨s3, hs3⟩ : ∃ s, s = smallB r3 := ⟨_, rfl⟩
  obtain ⟨X3, hX3⟩ : ∃ X, X = qv r3 := ⟨_, rfl⟩
  rw [← hs3] at K3 S3
  rw [← hX3] at S3
  clear hs3 hX3 h3
  go_enter Try.func12, Try.ntmps12
  go_wp2_with fail
  obtain ⟨W0, hW0⟩ : ∃ W, W = (((w.alloc (.cells #[.bool b1, .slice A1 n1 c1, .slice B1 m1 e1] 24)).alloc (.cells #[.bool b2, .slice A2 n2 c2, .slice B2 m2 e2] 24)).alloc (.cells #[.bool b3, .slice A3 n3 c3, .slice B3 m3 e3] 24)) := ⟨_, rfl⟩
  have HW0 := Lib.hid (show Below w.heap.size w W0 by rw [hW0]; exact bl_alloc (bl_alloc (bl_alloc (Below.refl _ _) _) _) _)
  have BB1 := Lib.hid (show W0.heap[w.heap.size]? = some (.cells #[.bool b1, .slice A1 n1 c1, .slice B1 m1 e1] 24 (0, 0)) by rw [hW0]; exact blk_alloc (blk_alloc (blk_new' (by simp) _) _) _)
  have BB2 := Lib.hid (show W0.heap[w.heap.size + 1]? = some (.cells #[.bool b2, .slice A2 n2 c2, .slice B2 m2 e2] 24 (0, 0)) by rw [hW0]; exact blk_alloc (blk_new' (by simp) _) _)
  have BB3 := Lib.hid (show W0.heap[w.heap.size + 1 + 1]? = some (.cells #[.bool b3, .slice A3 n3 c3, .slice B3 m3 e3] 24 (0, 0)) by rw [hW0]; exact blk_new' (by simp) _)
  rw [← hW0]
  clear hW0
  have HC := Lib.hid (show ∀ W : World, Below W0.heap.size W0 W → (W.cell? ⟨w.heap.size, 0, none⟩ = some (.bool b1) ∧ W.cell? ⟨w.heap.size, 1, none⟩ = some (.slice A1 n1 c1) ∧ W.cell? ⟨w.heap.size, 2, none⟩ = some (.slice B1 m1 e1) ∧ W.cell? ⟨w.heap.size + 1, 0, none⟩ = some (.bool b2) ∧ W.cell? ⟨w.heap.size + 1, 1, none⟩ = some (.slice A2 n2 c2) ∧ W.cell? ⟨w.heap.size + 1, 2, none⟩ = some (.slice B2 m2 e2) ∧ W.cell? ⟨w.heap.size + 1 + 1, 0, none⟩ = some (.bool b3) ∧ W.cell? ⟨w.heap.size + 1 + 1, 1, none⟩ = some (.slice A3 n3 c3) ∧ W.cell? ⟨w.heap.size + 1 + 1, 2, none⟩ = some (.slice B3 m3 e3) ∧ w.heap.size < W.heap.size ∧ w.heap.size + 1 < W.heap.size ∧ w.heap.size + 1 + 1 < W.heap.size) from fun W hb => ⟨blk_cell (blk_below BB1.out hb) 0, blk_cell (blk_below BB1.out hb) 1, blk_cell (blk_below BB1.out hb) 2, blk_cell (blk_below BB2.out hb) 0, blk_cell (blk_below BB2.out hb) 1, blk_cell (blk_below BB2.out hb) 2, blk_cell (blk_below BB3.out hb) 0, blk_cell (blk_below BB3.out hb) 1, blk_cell (blk_below BB3.out hb) 2, blk_lt (blk_below BB1.out hb), blk_lt (blk_below BB2.out hb), blk_lt (blk_below BB3.out hb)⟩)
  have T0 := Lib.hid (Below.refl W0.heap.size W0)
  refine (K1.out _ (bl_call HW0.out T0.out)).mono ?_
  cases s1
  · rintro e w1 ⟨rfl, hb⟩
    have T1 := Lib.hid (bl_call T0.out hb)
    obtain ⟨y0, y1, y2, y3, y4, y5, y6, y7, y8, y9, y10, y11⟩ := HC.out _ T1.out
    go_wp2_with fail
    go_ret
    exact ⟨rfl, bl_call HW0.out T1.out⟩
  rintro e w1 ⟨rfl, hb⟩
  have N1' := S1.out W0 HW0.out rfl
  have T1 := Lib.hid (bl_call T0.out hb)
  obtain ⟨y0, y1, y2, y3, y4, y5, y6, y7, y8, y9, y10, y11⟩ := HC.out _ T1.out
  clear hb
  go_wp2_with fail
  clear y0 y1 y2 y3 y4 y5 y6 y7 y8 y9 y10 y11
  refine (K2.out _ (bl_call HW0.out T1.out)).mono ?_
  cases s2
  · rintro e w2 ⟨rfl, hb⟩
    have T2 := Lib.hid (bl_call T1.out hb)
    obtain ⟨y0, y1, y2, y3, y4, y5, y6, y7, y8, y9, y10, y11⟩ := HC.out _ T2.out
    go_wp2_with fail
    go_ret
    exact ⟨rfl, bl_call HW0.out T2.out⟩
  rintro e w2 ⟨rfl, hb⟩
  have N2' := S2.out W0 HW0.out rfl
  have T2 := Lib.hid (bl_call T1.out hb)
  obtain ⟨y0, y1, y2, y3, y4, y5, y6, y7, y8, y9, y10, y11⟩ := HC.out _ T2.out
  clear hb
  go_wp2_with fail
  clear y0 y1 y2 y3 y4 y5 y6 y7 y8 y9 y10 y11
  refine (K3.out _ (bl_call HW0.out T2.out)).mono ?_
  cases s3
  · rintro e w3 ⟨rfl, hb⟩
    have T3 := Lib.hid (bl_call T2.out hb)
    obtain ⟨y0, y1, y2, y3, y4, y5, y6, y7, y8, y9, y10, y11⟩ := HC.out _ T3.out
    go_wp2_with fail
    go_ret
    exact ⟨rfl, bl_call HW0.out T3.out⟩
  rintro e w3 ⟨rfl, hb⟩
  have N3' := S3.out W0 HW0.out rfl
  have T3 := Lib.hid (bl_call T2.out hb)
  obtain ⟨y0, y1, y2, y3, y4, y5, y6, y7, y8, y9, y10, y11⟩ := HC.out _ T3.out
  clear hb
  have N1 := Lib.hid (N1'.below T3.out)
  clear N1' K1 S1
  have N2 := Lib.hid (N2'.below T3.out)
  clear N2' K2 S2
  have N3 := Lib.hid (N3'.below T3.out)
  clear N3' K3 S3
  obtain ⟨C, hC⟩ : ∃ C, C = sgnZ (X1 - X2) := ⟨_, rfl⟩
  have F12 := Lib.hid hC.symm
  have F21 := Lib.hid (show sgnZ (X2 - X1) = -C by rw [hC]; exact ord_back X1 X2)
  have FA := Lib.hid (show sgnZ (X1 + X3 - (X2 + X3)) = C by rw [hC]; exact ord_add X1 X2 X3)
  have FM := Lib.hid (show 0 < sgnZ X3 → sgnZ (X1 * X3 - X2 * X3) = C from fun h => by rw [hC]; exact ord_mul X1 X2 X3 h)
  have FT := Lib.hid (show C ≤ 0 → sgnZ (X2 - X3) ≤ 0 → sgnZ (X1 - X3) ≤ 0 from fun h => by rw [hC] at h; exact ord_trans X1 X2 X3 h)
  have FZ := Lib.hid (show C = 0 ↔ X1 = X2 by rw [hC]; exact ord_zero X1 X2)
  have hC1 := sgnZ_bd (X1 - X2)
  rw [← hC] at hC1
  clear hC
  obtain ⟨E, hE⟩ : ∃ E, E = sgnZ (X2 - X3) := ⟨_, rfl⟩
  obtain ⟨G, hG⟩ : ∃ E, E = sgnZ (X1 - X3) := ⟨_, rfl⟩
  obtain ⟨S3, hS3⟩ : ∃ E, E = sgnZ X3 := ⟨_, rfl⟩
  have FE := Lib.hid hE.symm
  have FG := Lib.hid hG.symm
  have FS := Lib.hid hS3.symm
  rw [← hE, ← hG] at FT
  rw [← hS3] at FM
  have hS3b := sgnZ_bd X3
  rw [← hS3] at hS3b
  have hS3' : S3 = 1 ∨ S3 = 0 ∨ S3 = -1 := by omega
  clear hE hG hS3 hS3b
  have hS3 := hS3'
  clear hS3'
  rcases (show C = -1 ∨ C = 0 ∨ C = 1 by omega) with rfl | rfl | rfl
  · have FD := Lib.hid (show decide (X1 = X2) = false from by
      have := FZ.out
      simp at this; simpa using this)
    have F21 := Lib.hid (show sgnZ (X2 - X1) = 1 from by have := F21.out; omega)
    clear hC1
    have hw : IntKind.i64.wrap (-1) = -1 := rfl
    have hw1 : IntKind.i64.wrap 1 = 1 := rfl
    have hwn : IntKind.i64.wrap (- -1) = 1 := rfl
    have hw0 : IntKind.i64.wrap 0 = 0 := rfl
    have hwz : IntKind.i64.wrap (-0) = 0 := rfl
    go_wp2_with fail
    apply Calls.mono (cmp_n ?hv ?hu ?hL ?hM)
    case hv => exact N1.out
    case hu => exact N2.out
    case hL => (exact Nat.le_of_ble_eq_true rfl)
    case hM => (exact Nat.le_of_ble_eq_true rfl)
    rw [F12.out]
    rintro e w4 ⟨rfl, hb4⟩
    have K4 := Lib.hid (bl_call T3.out hb4)
    have N1' := Lib.hid (N1.out.below hb4)
    have N2' := Lib.hid (N2.out.below hb4)
    have N3' := Lib.hid (N3.out.below hb4)
    clear y0 y1 y2 y3 y4 y5 y6 y7 y8 y9 y10 y11 hb4
    have HK := Lib.hid (show ∀ w', Below w4.heap.size w4 w' → (w'.cell? ⟨w.heap.size, 0, none⟩ = some (.bool b1) ∧ w'.cell? ⟨w.heap.size, 1, none⟩ = some (.slice A1 n1 c1) ∧ w'.cell? ⟨w.heap.size, 2, none⟩ = some (.slice B1 m1 e1) ∧ w'.cell? ⟨w.heap.size + 1, 0, none⟩ = some (.bool b2) ∧ w'.cell? ⟨w.heap.size + 1, 1, none⟩ = some (.slice A2 n2 c2) ∧ w'.cell? ⟨w.heap.size + 1, 2, none⟩ = some (.slice B2 m2 e2) ∧ w'.cell? ⟨w.heap.size + 1 + 1, 0, none⟩ = some (.bool b3) ∧ w'.cell? ⟨w.heap.size + 1 + 1, 1, none⟩ = some (.slice A3 n3 c3) ∧ w'.cell? ⟨w.heap.size + 1 + 1, 2, none⟩ = some (.slice B3 m3 e3)) from fun w' hb => by
      obtain ⟨y0, y1, y2, y3, y4, y5, y6, y7, y8, y9, y10, y11⟩ := HC.out w' (bl_call K4.out hb)
      exact ⟨y0, y1, y2, y3, y4, y5, y6, y7, y8⟩)
    go_upto_region 4 with (fail)
    go_cut [39] (fun vr wc => vr = .bool false ∧ Below w4.heap.size w4 wc)
    case first =>
      go_region_held3 (fun w' => w'.cell? ⟨w.heap.size, 0, none⟩ = some (.bool b1) ∧ w'.cell? ⟨w.heap.size, 1, none⟩ = some (.slice A1 n1 c1) ∧ w'.cell? ⟨w.heap.size, 2, none⟩ = some (.slice B1 m1 e1) ∧ w'.cell? ⟨w.heap.size + 1, 0, none⟩ = some (.bool b2) ∧ w'.cell? ⟨w.heap.size + 1, 1, none⟩ = some (.slice A2 n2 c2) ∧ w'.cell? ⟨w.heap.size + 1, 2, none⟩ = some (.slice B2 m2 e2) ∧ w'.cell? ⟨w.heap.size + 1 + 1, 0, none⟩ = some (.bool b3) ∧ w'.cell? ⟨w.heap.size + 1 + 1, 1, none⟩ = some (.slice A3 n3 c3) ∧ w'.cell? ⟨w.heap.size + 1 + 1, 2, none⟩ = some (.slice B3 m3 e3))
        (first
          | (focus (refine HK.out _ ?_; (repeat (first | (with_reducible exact Below.refl _ _) | (with_reducible refine bl_drew ?_) | (focus ((with_reducible apply bl_call'); with_reducible assumption)))); done)))
        (first
          | (go_at_call 47; apply Calls.mono (cmp_n ?hv ?hu ?hL ?hM); (case hv => (apply num_at ?h1 ?h2; (case h1 => with_reducible assumption); (case h2 => (repeat (first | (with_reducible exact Below.refl _ _) | (with_reducible refine bl_drew ?_) | (focus ((with_reducible apply bl_call'); with_reducible assumption))))))); (case hu => (apply num_at ?h1 ?h2; (case h1 => with_reducible assumption); (case h2 => (repeat (first | (with_reducible exact Below.refl _ _) | (with_reducible refine bl_drew ?_) | (focus ((with_reducible apply bl_call'); with_reducible assumption))))))); (case hL => (exact Nat.le_of_ble_eq_true rfl)); (case hM => (exact Nat.le_of_ble_eq_true rfl)); (first | rw [F21.out] | rw [F12.out] | rw [FA.out] | rw [FE.out] | rw [FG.out]); rintro e vw ⟨rfl, vb⟩)
          | (go_at_call 48; apply Calls.mono (canon_n ?hv ?hL); (case hv => (apply num_at ?h1 ?h2; (case h1 => with_reducible assumption); (case h2 => (repeat (first | (with_reducible exact Below.refl _ _) | (with_reducible refine bl_drew ?_) | (focus ((with_reducible apply bl_call'); with_reducible assumption))))))); (case hL => (exact Nat.le_of_ble_eq_true rfl)); rintro e vw ⟨vz, rfl, vh, vb⟩; have VH := Lib.hid vh; clear vh)
          | (go_at_call 20; apply Calls.mono (same_dec ?hv ?hu); (case hv => (apply num_at ?h1 ?h2; (case h1 => with_reducible assumption); (case h2 => (repeat (first | (with_reducible exact Below.refl _ _) | (with_reducible refine bl_drew ?_) | (focus ((with_reducible apply bl_call'); with_reducible assumption))))))); (case hu => (apply num_at ?h1 ?h2; (case h1 => with_reducible assumption); (case h2 => (repeat (first | (with_reducible exact Below.refl _ _) | (with_reducible refine bl_drew ?_) | (focus ((with_reducible apply bl_call'); with_reducible assumption))))))); (rw [FD.out]); rintro e vw ⟨rfl, vb⟩))
      all_goals (go_wp2; go_meet)
      all_goals (go_light; exact ⟨rfl, by repeat (first | (with_reducible exact Below.refl _ _) | (with_reducible refine bl_drew ?_) | (focus ((with_reducible apply bl_call'); with_reducible assumption)))⟩)
    case rest =>
      obtain ⟨rfl, hb5⟩ := hcut
      have K5 := Lib.hid (bl_call K4.out hb5)
      have M1 := Lib.hid (N1'.out.below hb5)
      have M2 := Lib.hid (N2'.out.below hb5)
      have M3 := Lib.hid (N3'.out.below hb5)
      obtain ⟨w5, h5⟩ : ∃ x, x = wc := ⟨_, rfl⟩
      subst h5
      obtain ⟨y0, y1, y2, y3, y4, y5, y6, y7, y8, y9, y10, y11⟩ := HC.out w5 K5.out
      clear HK hb5
      go_upto_region 6 with (fail)
      go_cut [53] (fun vr wc => vr = .bool false ∧ Below w5.heap.size w5 wc)
      case first =>
        go_wp2_with fail
        apply Calls.mono (cmp_n ?hv ?hu ?hL ?hM)
        case hv => exact M2.out
        case hu => exact M3.out
        case hL => (exact Nat.le_of_ble_eq_true rfl)
        case hM => (exact Nat.le_of_ble_eq_true rfl)
        rw [FE.out]
        rintro e w6 ⟨rfl, hb6⟩
        have K6 := Lib.hid (bl_call K5.out hb6)
        have L1 := Lib.hid (M1.out.below hb6)
        have L3 := Lib.hid (M3.out.below hb6)
        clear y0 y1 y2 y3 y4 y5 y6 y7 y8 y9 y10 y11
        obtain ⟨y0, y1, y2, y3, y4, y5, y6, y7, y8, y9, y10, y11⟩ := HC.out w6 K6.out
        by_cases hE : E ≤ 0
        · have hG := FT.out (by omega) hE
          go_wp2_with fail
          apply Calls.mono (cmp_n ?hv ?hu ?hL ?hM)
          case hv => exact L1.out
          case hu => exact L3.out
          case hL => (exact Nat.le_of_ble_eq_true rfl)
          case hM => (exact Nat.le_of_ble_eq_true rfl)
          rw [FG.out]
          rintro e w7 ⟨rfl, hb7⟩
          go_wp2_with fail
          all_goals try (exfalso; omega)
          all_goals go_meet
          all_goals (refine ⟨?_, bl_call hb6 hb7⟩; first | rfl | (congr 1; rw [decide_eq_false_iff_not]; omega))
        · go_wp2_with fail
          all_goals try (exfalso; omega)
          all_goals go_meet
          all_goals (go_light; exact ⟨rfl, hb6⟩)
      case rest =>
        obtain ⟨rfl, hbx⟩ := hcut
        have K6 := Lib.hid (bl_call K5.out hbx)
        have L1 := Lib.hid (M1.out.below hbx)
        have L2 := Lib.hid (M2.out.below hbx)
        have L3 := Lib.hid (M3.out.below hbx)
        obtain ⟨w6, hx⟩ : ∃ x, x = wc := ⟨_, rfl⟩
        subst hx
        clear hbx y0 y1 y2 y3 y4 y5 y6 y7 y8 y9 y10 y11
        obtain ⟨y0, y1, y2, y3, y4, y5, y6, y7, y8, y9, y10, y11⟩ := HC.out w6 K6.out
        have HK := Lib.hid (show ∀ w', Below w6.heap.size w6 w' → (w'.cell? ⟨w.heap.size, 0, none⟩ = some (.bool b1) ∧ w'.cell? ⟨w.heap.size, 1, none⟩ = some (.slice A1 n1 c1) ∧ w'.cell? ⟨w.heap.size, 2, none⟩ = some (.slice B1 m1 e1) ∧ w'.cell? ⟨w.heap.size + 1, 0, none⟩ = some (.bool b2) ∧ w'.cell? ⟨w.heap.size + 1, 1, none⟩ = some (.slice A2 n2 c2) ∧ w'.cell? ⟨w.heap.size + 1, 2, none⟩ = some (.slice B2 m2 e2) ∧ w'.cell? ⟨w.heap.size + 1 + 1, 0, none⟩ = some (.bool b3) ∧ w'.cell? ⟨w.heap.size + 1 + 1, 1, none⟩ = some (.slice A3 n3 c3) ∧ w'.cell? ⟨w.heap.size + 1 + 1, 2, none⟩ = some (.slice B3 m3 e3)) from fun w' hb => by
          obtain ⟨y0, y1, y2, y3, y4, y5, y6, y7, y8, y9, y10, y11⟩ := HC.out w' (bl_call K6.out hb)
          exact ⟨y0, y1, y2, y3, y4, y5, y6, y7, y8⟩)
        clear y0 y1 y2 y3 y4 y5 y6 y7 y8 y9 y10 y11
        go_upto_region 8 with (fail)
        go_cut [67] (fun vr wc => vr = .bool false ∧ Below w6.heap.size w6 wc)
        case first =>
          rcases hS3 with rfl | rfl | rfl
          · have FM9 := Lib.hid (FM.out (by omega))
            go_region_held3 (fun w' => w'.cell? ⟨w.heap.size, 0, none⟩ = some (.bool b1) ∧ w'.cell? ⟨w.heap.size, 1, none⟩ = some (.slice A1 n1 c1) ∧ w'.cell? ⟨w.heap.size, 2, none⟩ = some (.slice B1 m1 e1) ∧ w'.cell? ⟨w.heap.size + 1, 0, none⟩ = some (.bool b2) ∧ w'.cell? ⟨w.heap.size + 1, 1, none⟩ = some (.slice A2 n2 c2) ∧ w'.cell? ⟨w.heap.size + 1, 2, none⟩ = some (.slice B2 m2 e2) ∧ w'.cell? ⟨w.heap.size + 1 + 1, 0, none⟩ = some (.bool b3) ∧ w'.cell? ⟨w.heap.size + 1 + 1, 1, none⟩ = some (.slice A3 n3 c3) ∧ w'.cell? ⟨w.heap.size + 1 + 1, 2, none⟩ = some (.slice B3 m3 e3))
              (first
                | (focus (refine HK.out _ ?_; (repeat (first | (with_reducible exact Below.refl _ _) | (with_reducible refine bl_drew ?_) | (focus ((with_reducible apply bl_call'); with_reducible assumption)))); done)))
              (first
                | (go_at_call 52; apply Calls.mono (sign_n ?hv ?hL); (case hv => (apply num_at ?h1 ?h2; (case h1 => with_reducible assumption); (case h2 => (repeat (first | (with_reducible exact Below.refl _ _) | (with_reducible refine bl_drew ?_) | (focus ((with_reducible apply bl_call'); with_reducible assumption))))))); (case hL => (exact Nat.le_of_ble_eq_true rfl)); (rw [FS.out]); rintro e vw ⟨rfl, vb⟩)
                | (go_at_call 21; apply Calls.mono (mul_n ?hv ?hu ?hL ?hM); (case hv => (apply num_at ?h1 ?h2; (case h1 => with_reducible assumption); (case h2 => (repeat (first | (with_reducible exact Below.refl _ _) | (with_reducible refine bl_drew ?_) | (focus ((with_reducible apply bl_call'); with_reducible assumption))))))); (case hu => (apply num_at ?h1 ?h2; (case h1 => with_reducible assumption); (case h2 => (repeat (first | (with_reducible exact Below.refl _ _) | (with_reducible refine bl_drew ?_) | (focus ((with_reducible apply bl_call'); with_reducible assumption))))))); (case hL => (exact Nat.le_of_ble_eq_true rfl)); (case hM => (exact Nat.le_of_ble_eq_true rfl)); rintro e vw ⟨vz, rfl, vh, vb⟩; have VH := Lib.hid vh; clear vh)
                | (go_at_call 47; apply Calls.mono (cmp_n ?hv ?hu ?hL ?hM); (case hv => (apply num_at ?h1 ?h2; (case h1 => with_reducible assumption); (case h2 => (repeat (first | (with_reducible exact Below.refl _ _) | (with_reducible refine bl_drew ?_) | (focus ((with_reducible apply bl_call'); with_reducible assumption))))))); (case hu => (apply num_at ?h1 ?h2; (case h1 => with_reducible assumption); (case h2 => (repeat (first | (with_reducible exact Below.refl _ _) | (with_reducible refine bl_drew ?_) | (focus ((with_reducible apply bl_call'); with_reducible assumption))))))); (case hL => (exact Nat.le_of_ble_eq_true rfl)); (case hM => (exact Nat.le_of_ble_eq_true rfl)); (rw [FM9.out]); rintro e vw ⟨rfl, vb⟩))
            all_goals (go_wp2; go_meet)
            all_goals (go_light; exact ⟨rfl, by repeat (first | (with_reducible exact Below.refl _ _) | (with_reducible refine bl_drew ?_) | (focus ((with_reducible apply bl_call'); with_reducible assumption)))⟩)
          · refine wp_region_noPanic ?_
            refine wp_region_held_drew (S := fun w' => w'.cell? ⟨w.heap.size, 0, none⟩ = some (.bool b1) ∧ w'.cell? ⟨w.heap.size, 1, none⟩ = some (.slice A1 n1 c1) ∧ w'.cell? ⟨w.heap.size, 2, none⟩ = some (.slice B1 m1 e1) ∧ w'.cell? ⟨w.heap.size + 1, 0, none⟩ = some (.bool b2) ∧ w'.cell? ⟨w.heap.size + 1, 1, none⟩ = some (.slice A2 n2 c2) ∧ w'.cell? ⟨w.heap.size + 1, 2, none⟩ = some (.slice B2 m2 e2) ∧ w'.cell? ⟨w.heap.size + 1 + 1, 0, none⟩ = some (.bool b3) ∧ w'.cell? ⟨w.heap.size + 1 + 1, 1, none⟩ = some (.slice A3 n3 c3) ∧ w'.cell? ⟨w.heap.size + 1 + 1, 2, none⟩ = some (.slice B3 m3 e3)) (by kernel_rfl) ?_ (fun hHeld => ?_)
            · (focus (refine HK.out _ ?_; (repeat (first | (with_reducible exact Below.refl _ _) | (with_reducible refine bl_drew ?_) | (focus ((with_reducible apply bl_call'); with_reducible assumption)))); done))
            refine wpAnyH_take (i := 0) (oi := ({ dst := some 54, op := Op.load 24 (Operand.tmp 5), type := 24, pos := "law.go:118", after := #[], guard := none } : Oper)) (v := (.agg #[.bool b3, .slice A3 n3 c3, .slice B3 m3 e3])) rfl (by kernel_rfl) (by kernel_rfl) (by kernel_rfl) (fun _ _ _ h => h) (Or.inl ⟨by rfl, ?_⟩) (by assumption) ?_
            · (intro w hSw; (try dsimp only at hSw); go_simp)
            (try simp only [Act.put, List.setIfInBounds_toArray, List.set_cons_zero, List.set_cons_succ])
            refine wpAnyH_ready (rs := [1]) (by kernel_rfl) (by simp) ?_
            refine AllReadyH.cons (o := ({ dst := some 55, op := Op.call { callee := Callee.value (Operand.func 52), args := #[Operand.tmp 54], argTypes := #[24] }, type := 3, pos := "law.go:118", after := #[{ on := 0, ground := Ground.data }], guard := none } : Oper)) rfl (fun K hK => ?_) AllReadyH.nil
            go_simp
            (go_at_call 52; apply Calls.mono (sign_n ?hv ?hL); (case hv => (apply num_at ?h1 ?h2; (case h1 => with_reducible assumption); (case h2 => (repeat (first | (with_reducible exact Below.refl _ _) | (with_reducible refine bl_drew ?_) | (focus ((with_reducible apply bl_call'); with_reducible assumption))))))); (case hL => (exact Nat.le_of_ble_eq_true rfl)); (rw [FS.out]); rintro e vw ⟨rfl, vb⟩)
            go_wp2_with fail
            refine hK.out _ _ ?_ (fun hHeld2 => ?_)
            · (focus (refine HK.out _ ?_; (repeat (first | (with_reducible exact Below.refl _ _) | (with_reducible refine bl_drew ?_) | (focus ((with_reducible apply bl_call'); with_reducible assumption)))); done))
            clear hK K
            (try simp only [Act.put, List.setIfInBounds_toArray, List.set_cons_zero, List.set_cons_succ])
            refine wpAnyH_take (i := 2) (oi := ({ dst := some 56, op := Op.binOp BinOp.gtr 3 (Operand.tmp 55) (Operand.const (Value.int IntKind.i64 0)) 3, type := 4, pos := "law.go:118", after := #[{ on := 1, ground := Ground.data }], guard := none } : Oper)) (v := (.bool false)) rfl (by kernel_rfl) (by kernel_rfl) (by kernel_rfl) (fun _ _ _ h => h) (Or.inl ⟨by rfl, ?_⟩) (by assumption) ?_
            · (intro w hSw; (try dsimp only at hSw); go_simp)
            (try simp only [Act.put, List.setIfInBounds_toArray, List.set_cons_zero, List.set_cons_succ])
            refine wpAnyH_take (i := 3) (oi := ({ dst := some 57, op := Op.move (Operand.tmp 56), type := 4, pos := "law.go:118", after := #[{ on := 2, ground := Ground.data }, { on := 1, ground := Ground.chain }], guard := none } : Oper)) (v := (.bool false)) rfl (by kernel_rfl) (by kernel_rfl) (by kernel_rfl) (fun _ _ _ h => h) (Or.inl ⟨by rfl, ?_⟩) (by assumption) ?_
            · (intro w hSw; (try dsimp only at hSw); go_simp)
            (try simp only [Act.put, List.setIfInBounds_toArray, List.set_cons_zero, List.set_cons_succ])
            refine wpAnyH_take (i := 4) (oi := ({ dst := some 58, op := Op.load 24 (Operand.tmp 3), type := 24, pos := "law.go:118", after := #[{ on := 3, ground := Ground.guard }], guard := some (3, true) } : Oper)) (v := undef) rfl (by kernel_rfl) (by kernel_rfl) (by kernel_rfl) (fun _ _ _ h => h) (Or.inr ⟨by rfl, rfl⟩) (by assumption) ?_
            (try simp only [Act.put, List.setIfInBounds_toArray, List.set_cons_zero, List.set_cons_succ])
            refine wpAnyH_take (i := 5) (oi := ({ dst := some 59, op := Op.load 24 (Operand.tmp 5), type := 24, pos := "law.go:118", after := #[{ on := 3, ground := Ground.guard }], guard := some (3, true) } : Oper)) (v := undef) rfl (by kernel_rfl) (by kernel_rfl) (by kernel_rfl) (fun _ _ _ h => h) (Or.inr ⟨by rfl, rfl⟩) (by assumption) ?_
            (try simp only [Act.put, List.setIfInBounds_toArray, List.set_cons_zero, List.set_cons_succ])
            refine wpAnyH_take (i := 6) (oi := ({ dst := some 60, op := Op.call { callee := Callee.value (Operand.func 21), args := #[Operand.tmp 58, Operand.tmp 59], argTypes := #[24, 24] }, type := 24, pos := "law.go:118", after := #[{ on := 4, ground := Ground.data }, { on := 5, ground := Ground.data }, { on := 3, ground := Ground.chain }, { on := 3, ground := Ground.guard }], guard := some (3, true) } : Oper)) (v := undef) rfl (by kernel_rfl) (by kernel_rfl) (by kernel_rfl) (fun _ _ _ h => h) (Or.inr ⟨by rfl, rfl⟩) (by assumption) ?_
            (try simp only [Act.put, List.setIfInBounds_toArray, List.set_cons_zero, List.set_cons_succ])
            refine wpAnyH_take (i := 7) (oi := ({ dst := some 61, op := Op.load 24 (Operand.tmp 4), type := 24, pos := "law.go:118", after := #[{ on := 3, ground := Ground.guard }], guard := some (3, true) } : Oper)) (v := undef) rfl (by kernel_rfl) (by kernel_rfl) (by kernel_rfl) (fun _ _ _ h => h) (Or.inr ⟨by rfl, rfl⟩) (by assumption) ?_
            (try simp only [Act.put, List.setIfInBounds_toArray, List.set_cons_zero, List.set_cons_succ])
            refine wpAnyH_take (i := 8) (oi := ({ dst := some 62, op := Op.load 24 (Operand.tmp 5), type := 24, pos := "law.go:118", after := #[{ on := 3, ground := Ground.guard }], guard := some (3, true) } : Oper)) (v := undef) rfl (by kernel_rfl) (by kernel_rfl) (by kernel_rfl) (fun _ _ _ h => h) (Or.inr ⟨by rfl, rfl⟩) (by assumption) ?_
            (try simp only [Act.put, List.setIfInBounds_toArray, List.set_cons_zero, List.set_cons_succ])
            refine wpAnyH_take (i := 9) (oi := ({ dst := some 63, op := Op.call { callee := Callee.value (Operand.func 21), args := #[Operand.tmp 61, Operand.tmp 62], argTypes := #[24, 24] }, type := 24, pos := "law.go:118", after := #[{ on := 7, ground := Ground.data }, { on := 8, ground := Ground.data }, { on := 6, ground := Ground.chain }, { on := 3, ground := Ground.guard }], guard := some (3, true) } : Oper)) (v := undef) rfl (by kernel_rfl) (by kernel_rfl) (by kernel_rfl) (fun _ _ _ h => h) (Or.inr ⟨by rfl, rfl⟩) (by assumption) ?_
            (try simp only [Act.put, List.setIfInBounds_toArray, List.set_cons_zero, List.set_cons_succ])
            refine wpAnyH_take (i := 10) (oi := ({ dst := some 64, op := Op.call { callee := Callee.value (Operand.func 47), args := #[Operand.tmp 60, Operand.tmp 63], argTypes := #[24, 24] }, type := 3, pos := "law.go:118", after := #[{ on := 6, ground := Ground.data }, { on := 9, ground := Ground.data }, { on := 9, ground := Ground.chain }, { on := 3, ground := Ground.guard }], guard := some (3, true) } : Oper)) (v := undef) rfl (by kernel_rfl) (by kernel_rfl) (by kernel_rfl) (fun _ _ _ h => h) (Or.inr ⟨by rfl, rfl⟩) (by assumption) ?_
            (try simp only [Act.put, List.setIfInBounds_toArray, List.set_cons_zero, List.set_cons_succ])
            refine wpAnyH_take (i := 11) (oi := ({ dst := some 65, op := Op.move (Operand.tmp 7), type := 3, pos := "law.go:118", after := #[{ on := 3, ground := Ground.guard }], guard := some (3, true) } : Oper)) (v := undef) rfl (by kernel_rfl) (by kernel_rfl) (by kernel_rfl) (fun _ _ _ h => h) (Or.inr ⟨by rfl, rfl⟩) (by assumption) ?_
            (try simp only [Act.put, List.setIfInBounds_toArray, List.set_cons_zero, List.set_cons_succ])
            refine wpAnyH_take (i := 12) (oi := ({ dst := some 66, op := Op.binOp BinOp.neq 3 (Operand.tmp 64) (Operand.tmp 65) 3, type := 4, pos := "law.go:118", after := #[{ on := 10, ground := Ground.data }, { on := 11, ground := Ground.data }, { on := 3, ground := Ground.guard }], guard := some (3, true) } : Oper)) (v := undef) rfl (by kernel_rfl) (by kernel_rfl) (by kernel_rfl) (fun _ _ _ h => h) (Or.inr ⟨by rfl, rfl⟩) (by assumption) ?_
            (try simp only [Act.put, List.setIfInBounds_toArray, List.set_cons_zero, List.set_cons_succ])
            refine wpAnyH_take (i := 13) (oi := ({ dst := some 67, op := Op.pick (Operand.tmp 57) (Operand.tmp 66) (Operand.const (Value.bool false)), type := 4, pos := "law.go:118", after := #[{ on := 3, ground := Ground.data }, { on := 12, ground := Ground.data }], guard := none } : Oper)) (v := (.bool false)) rfl (by kernel_rfl) (by kernel_rfl) (by kernel_rfl) (fun _ _ _ h => h) (Or.inl ⟨by rfl, ?_⟩) (by assumption) ?_
            · (intro w hSw; (try dsimp only at hSw); go_simp)
            (try simp only [Act.put, List.setIfInBounds_toArray, List.set_cons_zero, List.set_cons_succ])
            refine wpAnyH_done (by kernel_rfl) ?_ _
            refine NoPanic.normal ?_
            go_wp2
            go_meet
            go_light
            exact ⟨rfl, by repeat (first | (with_reducible exact Below.refl _ _) | (with_reducible refine bl_drew ?_) | (focus ((with_reducible apply bl_call'); with_reducible assumption)))⟩
          · refine wp_region_noPanic ?_
            refine wp_region_held_drew (S := fun w' => w'.cell? ⟨w.heap.size, 0, none⟩ = some (.bool b1) ∧ w'.cell? ⟨w.heap.size, 1, none⟩ = some (.slice A1 n1 c1) ∧ w'.cell? ⟨w.heap.size, 2, none⟩ = some (.slice B1 m1 e1) ∧ w'.cell? ⟨w.heap.size + 1, 0, none⟩ = some (.bool b2) ∧ w'.cell? ⟨w.heap.size + 1, 1, none⟩ = some (.slice A2 n2 c2) ∧ w'.cell? ⟨w.heap.size + 1, 2, none⟩ = some (.slice B2 m2 e2) ∧ w'.cell? ⟨w.heap.size + 1 + 1, 0, none⟩ = some (.bool b3) ∧ w'.cell? ⟨w.heap.size + 1 + 1, 1, none⟩ = some (.slice A3 n3 c3) ∧ w'.cell? ⟨w.heap.size + 1 + 1, 2, none⟩ = some (.slice B3 m3 e3)) (by kernel_rfl) ?_ (fun hHeld => ?_)
            · (focus (refine HK.out _ ?_; (repeat (first | (with_reducible exact Below.refl _ _) | (with_reducible refine bl_drew ?_) | (focus ((with_reducible apply bl_call'); with_reducible assumption)))); done))
            refine wpAnyH_take (i := 0) (oi := ({ dst := some 54, op := Op.load 24 (Operand.tmp 5), type := 24, pos := "law.go:118", after := #[], guard := none } : Oper)) (v := (.agg #[.bool b3, .slice A3 n3 c3, .slice B3 m3 e3])) rfl (by kernel_rfl) (by kernel_rfl) (by kernel_rfl) (fun _ _ _ h => h) (Or.inl ⟨by rfl, ?_⟩) (by assumption) ?_
            · (intro w hSw; (try dsimp only at hSw); go_simp)
            (try simp only [Act.put, List.setIfInBounds_toArray, List.set_cons_zero, List.set_cons_succ])
            refine wpAnyH_ready (rs := [1]) (by kernel_rfl) (by simp) ?_
            refine AllReadyH.cons (o := ({ dst := some 55, op := Op.call { callee := Callee.value (Operand.func 52), args := #[Operand.tmp 54], argTypes := #[24] }, type := 3, pos := "law.go:118", after := #[{ on := 0, ground := Ground.data }], guard := none } : Oper)) rfl (fun K hK => ?_) AllReadyH.nil
            go_simp
            (go_at_call 52; apply Calls.mono (sign_n ?hv ?hL); (case hv => (apply num_at ?h1 ?h2; (case h1 => with_reducible assumption); (case h2 => (repeat (first | (with_reducible exact Below.refl _ _) | (with_reducible refine bl_drew ?_) | (focus ((with_reducible apply bl_call'); with_reducible assumption))))))); (case hL => (exact Nat.le_of_ble_eq_true rfl)); (rw [FS.out]); rintro e vw ⟨rfl, vb⟩)
            go_wp2_with fail
            refine hK.out _ _ ?_ (fun hHeld2 => ?_)
            · (focus (refine HK.out _ ?_; (repeat (first | (with_reducible exact Below.refl _ _) | (with_reducible refine bl_drew ?_) | (focus ((with_reducible apply bl_call'); with_reducible assumption)))); done))
            clear hK K
            (try simp only [Act.put, List.setIfInBounds_toArray, List.set_cons_zero, List.set_cons_succ])
            refine wpAnyH_take (i := 2) (oi := ({ dst := some 56, op := Op.binOp BinOp.gtr 3 (Operand.tmp 55) (Operand.const (Value.int IntKind.i64 0)) 3, type := 4, pos := "law.go:118", after := #[{ on := 1, ground := Ground.data }], guard := none } : Oper)) (v := (.bool false)) rfl (by kernel_rfl) (by kernel_rfl) (by kernel_rfl) (fun _ _ _ h => h) (Or.inl ⟨by rfl, ?_⟩) (by assumption) ?_
            · (intro w hSw; (try dsimp only at hSw); go_simp)
            (try simp only [Act.put, List.setIfInBounds_toArray, List.set_cons_zero, List.set_cons_succ])
            refine wpAnyH_take (i := 3) (oi := ({ dst := some 57, op := Op.move (Operand.tmp 56), type := 4, pos := "law.go:118", after := #[{ on := 2, ground := Ground.data }, { on := 1, ground := Ground.chain }], guard := none } : Oper)) (v := (.bool false)) rfl (by kernel_rfl) (by kernel_rfl) (by kernel_rfl) (fun _ _ _ h => h) (Or.inl ⟨by rfl, ?_⟩) (by assumption) ?_
            · (intro w hSw; (try dsimp only at hSw); go_simp)
            (try simp only [Act.put, List.setIfInBounds_toArray, List.set_cons_zero, List.set_cons_succ])
            refine wpAnyH_take (i := 4) (oi := ({ dst := some 58, op := Op.load 24 (Operand.tmp 3), type := 24, pos := "law.go:118", after := #[{ on := 3, ground := Ground.guard }], guard := some (3, true) } : Oper)) (v := undef) rfl (by kernel_rfl) (by kernel_rfl) (by kernel_rfl) (fun _ _ _ h => h) (Or.inr ⟨by rfl, rfl⟩) (by assumption) ?_
            (try simp only [Act.put, List.setIfInBounds_toArray, List.set_cons_zero, List.set_cons_succ])
            refine wpAnyH_take (i := 5) (oi := ({ dst := some 59, op := Op.load 24 (Operand.tmp 5), type := 24, pos := "law.go:118", after := #[{ on := 3, ground := Ground.guard }], guard := some (3, true) } : Oper)) (v := undef) rfl (by kernel_rfl) (by kernel_rfl) (by kernel_rfl) (fun _ _ _ h => h) (Or.inr ⟨by rfl, rfl⟩) (by assumption) ?_
            (try simp only [Act.put, List.setIfInBounds_toArray, List.set_cons_zero, List.set_cons_succ])
            refine wpAnyH_take (i := 6) (oi := ({ dst := some 60, op := Op.call { callee := Callee.value (Operand.func 21), args := #[Operand.tmp 58, Operand.tmp 59], argTypes := #[24, 24] }, type := 24, pos := "law.go:118", after := #[{ on := 4, ground := Ground.data }, { on := 5, ground := Ground.data }, { on := 3, ground := Ground.chain }, { on := 3, ground := Ground.guard }], guard := some (3, true) } : Oper)) (v := undef) rfl (by kernel_rfl) (by kernel_rfl) (by kernel_rfl) (fun _ _ _ h => h) (Or.inr ⟨by rfl, rfl⟩) (by assumption) ?_
            (try simp only [Act.put, List.setIfInBounds_toArray, List.set_cons_zero, List.set_cons_succ])
            refine wpAnyH_take (i := 7) (oi := ({ dst := some 61, op := Op.load 24 (Operand.tmp 4), type := 24, pos := "law.go:118", after := #[{ on := 3, ground := Ground.guard }], guard := some (3, true) } : Oper)) (v := undef) rfl (by kernel_rfl) (by kernel_rfl) (by kernel_rfl) (fun _ _ _ h => h) (Or.inr ⟨by rfl, rfl⟩) (by assumption) ?_
            (try simp only [Act.put, List.setIfInBounds_toArray, List.set_cons_zero, List.set_cons_succ])
            refine wpAnyH_take (i := 8) (oi := ({ dst := some 62, op := Op.load 24 (Operand.tmp 5), type := 24, pos := "law.go:118", after := #[{ on := 3, ground := Ground.guard }], guard := some (3, true) } : Oper)) (v := undef) rfl (by kernel_rfl) (by kernel_rfl) (by kernel_rfl) (fun _ _ _ h => h) (Or.inr ⟨by rfl, rfl⟩) (by assumption) ?_
            (try simp only [Act.put, List.setIfInBounds_toArray, List.set_cons_zero, List.set_cons_succ])
            refine wpAnyH_take (i := 9) (oi := ({ dst := some 63, op := Op.call { callee := Callee.value (Operand.func 21), args := #[Operand.tmp 61, Operand.tmp 62], argTypes := #[24, 24] }, type := 24, pos := "law.go:118", after := #[{ on := 7, ground := Ground.data }, { on := 8, ground := Ground.data }, { on := 6, ground := Ground.chain }, { on := 3, ground := Ground.guard }], guard := some (3, true) } : Oper)) (v := undef) rfl (by kernel_rfl) (by kernel_rfl) (by kernel_rfl) (fun _ _ _ h => h) (Or.inr ⟨by rfl, rfl⟩) (by assumption) ?_
            (try simp only [Act.put, List.setIfInBounds_toArray, List.set_cons_zero, List.set_cons_succ])
            refine wpAnyH_take (i := 10) (oi := ({ dst := some 64, op := Op.call { callee := Callee.value (Operand.func 47), args := #[Operand.tmp 60, Operand.tmp 63], argTypes := #[24, 24] }, type := 3, pos := "law.go:118", after := #[{ on := 6, ground := Ground.data }, { on := 9, ground := Ground.data }, { on := 9, ground := Ground.chain }, { on := 3, ground := Ground.guard }], guard := some (3, true) } : Oper)) (v := undef) rfl (by kernel_rfl) (by kernel_rfl) (by kernel_rfl) (fun _ _ _ h => h) (Or.inr ⟨by rfl, rfl⟩) (by assumption) ?_
            (try simp only [Act.put, List.setIfInBounds_toArray, List.set_cons_zero, List.set_cons_succ])
            refine wpAnyH_take (i := 11) (oi := ({ dst := some 65, op := Op.move (Operand.tmp 7), type := 3, pos := "law.go:118", after := #[{ on := 3, ground := Ground.guard }], guard := some (3, true) } : Oper)) (v := undef) rfl (by kernel_rfl) (by kernel_rfl) (by kernel_rfl) (fun _ _ _ h => h) (Or.inr ⟨by rfl, rfl⟩) (by assumption) ?_
            (try simp only [Act.put, List.setIfInBounds_toArray, List.set_cons_zero, List.set_cons_succ])
            refine wpAnyH_take (i := 12) (oi := ({ dst := some 66, op := Op.binOp BinOp.neq 3 (Operand.tmp 64) (Operand.tmp 65) 3, type := 4, pos := "law.go:118", after := #[{ on := 10, ground := Ground.data }, { on := 11, ground := Ground.data }, { on := 3, ground := Ground.guard }], guard := some (3, true) } : Oper)) (v := undef) rfl (by kernel_rfl) (by kernel_rfl) (by kernel_rfl) (fun _ _ _ h => h) (Or.inr ⟨by rfl, rfl⟩) (by assumption) ?_
            (try simp only [Act.put, List.setIfInBounds_toArray, List.set_cons_zero, List.set_cons_succ])
            refine wpAnyH_take (i := 13) (oi := ({ dst := some 67, op := Op.pick (Operand.tmp 57) (Operand.tmp 66) (Operand.const (Value.bool false)), type := 4, pos := "law.go:118", after := #[{ on := 3, ground := Ground.data }, { on := 12, ground := Ground.data }], guard := none } : Oper)) (v := (.bool false)) rfl (by kernel_rfl) (by kernel_rfl) (by kernel_rfl) (fun _ _ _ h => h) (Or.inl ⟨by rfl, ?_⟩) (by assumption) ?_
            · (intro w hSw; (try dsimp only at hSw); go_simp)
            (try simp only [Act.put, List.setIfInBounds_toArray, List.set_cons_zero, List.set_cons_succ])
            refine wpAnyH_done (by kernel_rfl) ?_ _
            refine NoPanic.normal ?_
            go_wp2
            go_meet
            go_light
            exact ⟨rfl, by repeat (first | (with_reducible exact Below.refl _ _) | (with_reducible refine bl_drew ?_) | (focus ((with_reducible apply bl_call'); with_reducible assumption)))⟩
        case rest =>
          obtain ⟨rfl, hbx⟩ := hcut
          have K8 := Lib.hid (bl_call K6.out hbx)
          have P1 := Lib.hid (L1.out.below hbx)
          have P2 := Lib.hid (L2.out.below hbx)
          have P3 := Lib.hid (L3.out.below hbx)
          obtain ⟨w8, hx⟩ : ∃ x, x = wc := ⟨_, rfl⟩
          subst hx
          clear HK hbx
          have HK := Lib.hid (show ∀ w', Below w8.heap.size w8 w' → (w'.cell? ⟨w.heap.size, 0, none⟩ = some (.bool b1) ∧ w'.cell? ⟨w.heap.size, 1, none⟩ = some (.slice A1 n1 c1) ∧ w'.cell? ⟨w.heap.size, 2, none⟩ = some (.slice B1 m1 e1) ∧ w'.cell? ⟨w.heap.size + 1, 0, none⟩ = some (.bool b2) ∧ w'.cell? ⟨w.heap.size + 1, 1, none⟩ = some (.slice A2 n2 c2) ∧ w'.cell? ⟨w.heap.size + 1, 2, none⟩ = some (.slice B2 m2 e2) ∧ w'.cell? ⟨w.heap.size + 1 + 1, 0, none⟩ = some (.bool b3) ∧ w'.cell? ⟨w.heap.size + 1 + 1, 1, none⟩ = some (.slice A3 n3 c3) ∧ w'.cell? ⟨w.heap.size + 1 + 1, 2, none⟩ = some (.slice B3 m3 e3)) from fun w' hb => by
            obtain ⟨y0, y1, y2, y3, y4, y5, y6, y7, y8, y9, y10, y11⟩ := HC.out w' (bl_call K8.out hb)
            exact ⟨y0, y1, y2, y3, y4, y5, y6, y7, y8⟩)
          go_upto_region 10 with (fail)
          go_region_held3 (fun w' => w'.cell? ⟨w.heap.size, 0, none⟩ = some (.bool b1) ∧ w'.cell? ⟨w.heap.size, 1, none⟩ = some (.slice A1 n1 c1) ∧ w'.cell? ⟨w.heap.size, 2, none⟩ = some (.slice B1 m1 e1) ∧ w'.cell? ⟨w.heap.size + 1, 0, none⟩ = some (.bool b2) ∧ w'.cell? ⟨w.heap.size + 1, 1, none⟩ = some (.slice A2 n2 c2) ∧ w'.cell? ⟨w.heap.size + 1, 2, none⟩ = some (.slice B2 m2 e2) ∧ w'.cell? ⟨w.heap.size + 1 + 1, 0, none⟩ = some (.bool b3) ∧ w'.cell? ⟨w.heap.size + 1 + 1, 1, none⟩ = some (.slice A3 n3 c3) ∧ w'.cell? ⟨w.heap.size + 1 + 1, 2, none⟩ = some (.slice B3 m3 e3))
            (first
              | (focus (refine HK.out _ ?_; (repeat (first | (with_reducible exact Below.refl _ _) | (with_reducible refine bl_drew ?_) | (focus ((with_reducible apply bl_call'); with_reducible assumption)))); done)))
            (first
              | (go_at_call 43; apply Calls.mono (add_n ?hv ?hu ?hL ?hM); (case hv => (apply num_at ?h1 ?h2; (case h1 => with_reducible assumption); (case h2 => (repeat (first | (with_reducible exact Below.refl _ _) | (with_reducible refine bl_drew ?_) | (focus ((with_reducible apply bl_call'); with_reducible assumption))))))); (case hu => (apply num_at ?h1 ?h2; (case h1 => with_reducible assumption); (case h2 => (repeat (first | (with_reducible exact Below.refl _ _) | (with_reducible refine bl_drew ?_) | (focus ((with_reducible apply bl_call'); with_reducible assumption))))))); (case hL => (exact Nat.le_of_ble_eq_true rfl)); (case hM => (exact Nat.le_of_ble_eq_true rfl)); rintro e vw ⟨vz, rfl, vh, vb⟩; have VH := Lib.hid vh; clear vh)
              | (go_at_call 47; apply Calls.mono (cmp_n ?hv ?hu ?hL ?hM); (case hv => (apply num_at ?h1 ?h2; (case h1 => with_reducible assumption); (case h2 => (repeat (first | (with_reducible exact Below.refl _ _) | (with_reducible refine bl_drew ?_) | (focus ((with_reducible apply bl_call'); with_reducible assumption))))))); (case hu => (apply num_at ?h1 ?h2; (case h1 => with_reducible assumption); (case h2 => (repeat (first | (with_reducible exact Below.refl _ _) | (with_reducible refine bl_drew ?_) | (focus ((with_reducible apply bl_call'); with_reducible assumption))))))); (case hL => (exact Nat.le_of_ble_eq_true rfl)); (case hM => (exact Nat.le_of_ble_eq_true rfl)); (rw [FA.out]); rintro e vw ⟨rfl, vb⟩)
              | (go_at_call 45; apply Calls.mono (sub_n ?hv ?hu ?hL ?hM); (case hv => (apply num_at ?h1 ?h2; (case h1 => with_reducible assumption); (case h2 => (repeat (first | (with_reducible exact Below.refl _ _) | (with_reducible refine bl_drew ?_) | (focus ((with_reducible apply bl_call'); with_reducible assumption))))))); (case hu => (apply num_at ?h1 ?h2; (case h1 => with_reducible assumption); (case h2 => (repeat (first | (with_reducible exact Below.refl _ _) | (with_reducible refine bl_drew ?_) | (focus ((with_reducible apply bl_call'); with_reducible assumption))))))); (case hL => (exact Nat.le_of_ble_eq_true rfl)); (case hM => (exact Nat.le_of_ble_eq_true rfl)); rintro e vw ⟨vz, rfl, vh, vb⟩; have VH := Lib.hid vh; clear vh)
              | (go_at_call 52; apply Calls.mono (sign_n ?hv ?hL); (case hv => (apply num_at ?h1 ?h2; (case h1 => with_reducible assumption); (case h2 => (repeat (first | (with_reducible exact Below.refl _ _) | (with_reducible refine bl_drew ?_) | (focus ((with_reducible apply bl_call'); with_reducible assumption))))))); (case hL => (exact Nat.le_of_ble_eq_true rfl)); (rw [F12.out]); rintro e vw ⟨rfl, vb⟩)
              | (go_at_call 23; refine (awake_any _).mono ?_; rintro e vw ⟨rfl, vb⟩))
          all_goals go_wp2_with fail
          all_goals go_ret
          all_goals exact ⟨rfl, bl_call (bl_call HW0.out K8.out) (by repeat (first | (with_reducible exact Below.refl _ _) | (with_reducible refine bl_drew ?_) | (focus ((with_reducible apply bl_call'); with_reducible assumption))))⟩
      
  · have FD := Lib.hid (show decide (X1 = X2) = true from by
      have := FZ.out
      simpa using this)
    have F21 := Lib.hid (show sgnZ (X2 - X1) = 0 from by have := F21.out; omega)
    clear hC1
    have hw : IntKind.i64.wrap (-1) = -1 := rfl
    have hw1 : IntKind.i64.wrap 1 = 1 := rfl
    have hwn : IntKind.i64.wrap (- -1) = 1 := rfl
    have hw0 : IntKind.i64.wrap 0 = 0 := rfl
    have hwz : IntKind.i64.wrap (-0) = 0 := rfl
    go_wp2_with fail
    apply Calls.mono (cmp_n ?hv ?hu ?hL ?hM)
    case hv => exact N1.out
    case hu => exact N2.out
    case hL => (exact Nat.le_of_ble_eq_true rfl)
    case hM => (exact Nat.le_of_ble_eq_true rfl)
    rw [F12.out]
    rintro e w4 ⟨rfl, hb4⟩
    have K4 := Lib.hid (bl_call T3.out hb4)
    have N1' := Lib.hid (N1.out.below hb4)
    have N2' := Lib.hid (N2.out.below hb4)
    have N3' := Lib.hid (N3.out.below hb4)
    clear y0 y1 y2 y3 y4 y5 y6 y7 y8 y9 y10 y11 hb4
    have HK := Lib.hid (show ∀ w', Below w4.heap.size w4 w' → (w'.cell? ⟨w.heap.size, 0, none⟩ = some (.bool b1) ∧ w'.cell? ⟨w.heap.size, 1, none⟩ = some (.slice A1 n1 c1) ∧ w'.cell? ⟨w.heap.size, 2, none⟩ = some (.slice B1 m1 e1) ∧ w'.cell? ⟨w.heap.size + 1, 0, none⟩ = some (.bool b2) ∧ w'.cell? ⟨w.heap.size + 1, 1, none⟩ = some (.slice A2 n2 c2) ∧ w'.cell? ⟨w.heap.size + 1, 2, none⟩ = some (.slice B2 m2 e2) ∧ w'.cell? ⟨w.heap.size + 1 + 1, 0, none⟩ = some (.bool b3) ∧ w'.cell? ⟨w.heap.size + 1 + 1, 1, none⟩ = some (.slice A3 n3 c3) ∧ w'.cell? ⟨w.heap.size + 1 + 1, 2, none⟩ = some (.slice B3 m3 e3)) from fun w' hb => by
      obtain ⟨y0, y1, y2, y3, y4, y5, y6, y7, y8, y9, y10, y11⟩ := HC.out w' (bl_call K4.out hb)
      exact ⟨y0, y1, y2, y3, y4, y5, y6, y7, y8⟩)
    go_upto_region 4 with (fail)
    go_cut [39] (fun vr wc => vr = .bool false ∧ Below w4.heap.size w4 wc)
    case first =>
      go_region_held3 (fun w' => w'.cell? ⟨w.heap.size, 0, none⟩ = some (.bool b1) ∧ w'.cell? ⟨w.heap.size, 1, none⟩ = some (.slice A1 n1 c1) ∧ w'.cell? ⟨w.heap.size, 2, none⟩ = some (.slice B1 m1 e1) ∧ w'.cell? ⟨w.heap.size + 1, 0, none⟩ = some (.bool b2) ∧ w'.cell? ⟨w.heap.size + 1, 1, none⟩ = some (.slice A2 n2 c2) ∧ w'.cell? ⟨w.heap.size + 1, 2, none⟩ = some (.slice B2 m2 e2) ∧ w'.cell? ⟨w.heap.size + 1 + 1, 0, none⟩ = some (.bool b3) ∧ w'.cell? ⟨w.heap.size + 1 + 1, 1, none⟩ = some (.slice A3 n3 c3) ∧ w'.cell? ⟨w.heap.size + 1 + 1, 2, none⟩ = some (.slice B3 m3 e3))
        (first
          | (focus (refine HK.out _ ?_; (repeat (first | (with_reducible exact Below.refl _ _) | (with_reducible refine bl_drew ?_) | (focus ((with_reducible apply bl_call'); with_reducible assumption)))); done)))
        (first
          | (go_at_call 47; apply Calls.mono (cmp_n ?hv ?hu ?hL ?hM); (case hv => (apply num_at ?h1 ?h2; (case h1 => with_reducible assumption); (case h2 => (repeat (first | (with_reducible exact Below.refl _ _) | (with_reducible refine bl_drew ?_) | (focus ((with_reducible apply bl_call'); with_reducible assumption))))))); (case hu => (apply num_at ?h1 ?h2; (case h1 => with_reducible assumption); (case h2 => (repeat (first | (with_reducible exact Below.refl _ _) | (with_reducible refine bl_drew ?_) | (focus ((with_reducible apply bl_call'); with_reducible assumption))))))); (case hL => (exact Nat.le_of_ble_eq_true rfl)); (case hM => (exact Nat.le_of_ble_eq_true rfl)); (first | rw [F21.out] | rw [F12.out] | rw [FA.out] | rw [FE.out] | rw [FG.out]); rintro e vw ⟨rfl, vb⟩)
          | (go_at_call 48; apply Calls.mono (canon_n ?hv ?hL); (case hv => (apply num_at ?h1 ?h2; (case h1 => with_reducible assumption); (case h2 => (repeat (first | (with_reducible exact Below.refl _ _) | (with_reducible refine bl_drew ?_) | (focus ((with_reducible apply bl_call'); with_reducible assumption))))))); (case hL => (exact Nat.le_of_ble_eq_true rfl)); rintro e vw ⟨vz, rfl, vh, vb⟩; have VH := Lib.hid vh; clear vh)
          | (go_at_call 20; apply Calls.mono (same_dec ?hv ?hu); (case hv => (apply num_at ?h1 ?h2; (case h1 => with_reducible assumption); (case h2 => (repeat (first | (with_reducible exact Below.refl _ _) | (with_reducible refine bl_drew ?_) | (focus ((with_reducible apply bl_call'); with_reducible assumption))))))); (case hu => (apply num_at ?h1 ?h2; (case h1 => with_reducible assumption); (case h2 => (repeat (first | (with_reducible exact Below.refl _ _) | (with_reducible refine bl_drew ?_) | (focus ((with_reducible apply bl_call'); with_reducible assumption))))))); (rw [FD.out]); rintro e vw ⟨rfl, vb⟩))
      all_goals (go_wp2; go_meet)
      all_goals (go_light; exact ⟨rfl, by repeat (first | (with_reducible exact Below.refl _ _) | (with_reducible refine bl_drew ?_) | (focus ((with_reducible apply bl_call'); with_reducible assumption)))⟩)
    case rest =>
      obtain ⟨rfl, hb5⟩ := hcut
      have K5 := Lib.hid (bl_call K4.out hb5)
      have M1 := Lib.hid (N1'.out.below hb5)
      have M2 := Lib.hid (N2'.out.below hb5)
      have M3 := Lib.hid (N3'.out.below hb5)
      obtain ⟨w5, h5⟩ : ∃ x, x = wc := ⟨_, rfl⟩
      subst h5
      obtain ⟨y0, y1, y2, y3, y4, y5, y6, y7, y8, y9, y10, y11⟩ := HC.out w5 K5.out
      clear HK hb5
      go_upto_region 6 with (fail)
      go_cut [53] (fun vr wc => vr = .bool false ∧ Below w5.heap.size w5 wc)
      case first =>
        go_wp2_with fail
        apply Calls.mono (cmp_n ?hv ?hu ?hL ?hM)
        case hv => exact M2.out
        case hu => exact M3.out
        case hL => (exact Nat.le_of_ble_eq_true rfl)
        case hM => (exact Nat.le_of_ble_eq_true rfl)
        rw [FE.out]
        rintro e w6 ⟨rfl, hb6⟩
        have K6 := Lib.hid (bl_call K5.out hb6)
        have L1 := Lib.hid (M1.out.below hb6)
        have L3 := Lib.hid (M3.out.below hb6)
        clear y0 y1 y2 y3 y4 y5 y6 y7 y8 y9 y10 y11
        obtain ⟨y0, y1, y2, y3, y4, y5, y6, y7, y8, y9, y10, y11⟩ := HC.out w6 K6.out
        by_cases hE : E ≤ 0
        · have hG := FT.out (by omega) hE
          go_wp2_with fail
          apply Calls.mono (cmp_n ?hv ?hu ?hL ?hM)
          case hv => exact L1.out
          case hu => exact L3.out
          case hL => (exact Nat.le_of_ble_eq_true rfl)
          case hM => (exact Nat.le_of_ble_eq_true rfl)
          rw [FG.out]
          rintro e w7 ⟨rfl, hb7⟩
          go_wp2_with fail
          all_goals try (exfalso; omega)
          all_goals go_meet
          all_goals (refine ⟨?_, bl_call hb6 hb7⟩; first | rfl | (congr 1; rw [decide_eq_false_iff_not]; omega))
        · go_wp2_with fail
          all_goals try (exfalso; omega)
          all_goals go_meet
          all_goals (go_light; exact ⟨rfl, hb6⟩)
      case rest =>
        obtain ⟨rfl, hbx⟩ := hcut
        have K6 := Lib.hid (bl_call K5.out hbx)
        have L1 := Lib.hid (M1.out.below hbx)
        have L2 := Lib.hid (M2.out.below hbx)
        have L3 := Lib.hid (M3.out.below hbx)
        obtain ⟨w6, hx⟩ : ∃ x, x = wc := ⟨_, rfl⟩
        subst hx
        clear hbx y0 y1 y2 y3 y4 y5 y6 y7 y8 y9 y10 y11
        obtain ⟨y0, y1, y2, y3, y4, y5, y6, y7, y8, y9, y10, y11⟩ := HC.out w6 K6.out
        have HK := Lib.hid (show ∀ w', Below w6.heap.size w6 w' → (w'.cell? ⟨w.heap.size, 0, none⟩ = some (.bool b1) ∧ w'.cell? ⟨w.heap.size, 1, none⟩ = some (.slice A1 n1 c1) ∧ w'.cell? ⟨w.heap.size, 2, none⟩ = some (.slice B1 m1 e1) ∧ w'.cell? ⟨w.heap.size + 1, 0, none⟩ = some (.bool b2) ∧ w'.cell? ⟨w.heap.size + 1, 1, none⟩ = some (.slice A2 n2 c2) ∧ w'.cell? ⟨w.heap.size + 1, 2, none⟩ = some (.slice B2 m2 e2) ∧ w'.cell? ⟨w.heap.size + 1 + 1, 0, none⟩ = some (.bool b3) ∧ w'.cell? ⟨w.heap.size + 1 + 1, 1, none⟩ = some (.slice A3 n3 c3) ∧ w'.cell? ⟨w.heap.size + 1 + 1, 2, none⟩ = some (.slice B3 m3 e3)) from fun w' hb => by
          obtain ⟨y0, y1, y2, y3, y4, y5, y6, y7, y8, y9, y10, y11⟩ := HC.out w' (bl_call K6.out hb)
          exact ⟨y0, y1, y2, y3, y4, y5, y6, y7, y8⟩)
        clear y0 y1 y2 y3 y4 y5 y6 y7 y8 y9 y10 y11
        go_upto_region 8 with (fail)
        go_cut [67] (fun vr wc => vr = .bool false ∧ Below w6.heap.size w6 wc)
        case first =>
          rcases hS3 with rfl | rfl | rfl
          · have FM9 := Lib.hid (FM.out (by omega))
            go_region_held3 (fun w' => w'.cell? ⟨w.heap.size, 0, none⟩ = some (.bool b1) ∧ w'.cell? ⟨w.heap.size, 1, none⟩ = some (.slice A1 n1 c1) ∧ w'.cell? ⟨w.heap.size, 2, none⟩ = some (.slice B1 m1 e1) ∧ w'.cell? ⟨w.heap.size + 1, 0, none⟩ = some (.bool b2) ∧ w'.cell? ⟨w.heap.size + 1, 1, none⟩ = some (.slice A2 n2 c2) ∧ w'.cell? ⟨w.heap.size + 1, 2, none⟩ = some (.slice B2 m2 e2) ∧ w'.cell? ⟨w.heap.size + 1 + 1, 0, none⟩ = some (.bool b3) ∧ w'.cell? ⟨w.heap.size + 1 + 1, 1, none⟩ = some (.slice A3 n3 c3) ∧ w'.cell? ⟨w.heap.size + 1 + 1, 2, none⟩ = some (.slice B3 m3 e3))
              (first
                | (focus (refine HK.out _ ?_; (repeat (first | (with_reducible exact Below.refl _ _) | (with_reducible refine bl_drew ?_) | (focus ((with_reducible apply bl_call'); with_reducible assumption)))); done)))
              (first
                | (go_at_call 52; apply Calls.mono (sign_n ?hv ?hL); (case hv => (apply num_at ?h1 ?h2; (case h1 => with_reducible assumption); (case h2 => (repeat (first | (with_reducible exact Below.refl _ _) | (with_reducible refine bl_drew ?_) | (focus ((with_reducible apply bl_call'); with_reducible assumption))))))); (case hL => (exact Nat.le_of_ble_eq_true rfl)); (rw [FS.out]); rintro e vw ⟨rfl, vb⟩)
                | (go_at_call 21; apply Calls.mono (mul_n ?hv ?hu ?hL ?hM); (case hv => (apply num_at ?h1 ?h2; (case h1 => with_reducible assumption); (case h2 => (repeat (first | (with_reducible exact Below.refl _ _) | (with_reducible refine bl_drew ?_) | (focus ((with_reducible apply bl_call'); with_reducible assumption))))))); (case hu => (apply num_at ?h1 ?h2; (case h1 => with_reducible assumption); (case h2 => (repeat (first | (with_reducible exact Below.refl _ _) | (with_reducible refine bl_drew ?_) | (focus ((with_reducible apply bl_call'); with_reducible assumption))))))); (case hL => (exact Nat.le_of_ble_eq_true rfl)); (case hM => (exact Nat.le_of_ble_eq_true rfl)); rintro e vw ⟨vz, rfl, vh, vb⟩; have VH := Lib.hid vh; clear vh)
                | (go_at_call 47; apply Calls.mono (cmp_n ?hv ?hu ?hL ?hM); (case hv => (apply num_at ?h1 ?h2; (case h1 => with_reducible assumption); (case h2 => (repeat (first | (with_reducible exact Below.refl _ _) | (with_reducible refine bl_drew ?_) | (focus ((with_reducible apply bl_call'); with_reducible assumption))))))); (case hu => (apply num_at ?h1 ?h2; (case h1 => with_reducible assumption); (case h2 => (repeat (first | (with_reducible exact Below.refl _ _) | (with_reducible refine bl_drew ?_) | (focus ((with_reducible apply bl_call'); with_reducible assumption))))))); (case hL => (exact Nat.le_of_ble_eq_true rfl)); (case hM => (exact Nat.le_of_ble_eq_true rfl)); (rw [FM9.out]); rintro e vw ⟨rfl, vb⟩))
            all_goals (go_wp2; go_meet)
            all_goals (go_light; exact ⟨rfl, by repeat (first | (with_reducible exact Below.refl _ _) | (with_reducible refine bl_drew ?_) | (focus ((with_reducible apply bl_call'); with_reducible assumption)))⟩)
          · refine wp_region_noPanic ?_
            refine wp_region_held_drew (S := fun w' => w'.cell? ⟨w.heap.size, 0, none⟩ = some (.bool b1) ∧ w'.cell? ⟨w.heap.size, 1, none⟩ = some (.slice A1 n1 c1) ∧ w'.cell? ⟨w.heap.size, 2, none⟩ = some (.slice B1 m1 e1) ∧ w'.cell? ⟨w.heap.size + 1, 0, none⟩ = some (.bool b2) ∧ w'.cell? ⟨w.heap.size + 1, 1, none⟩ = some (.slice A2 n2 c2) ∧ w'.cell? ⟨w.heap.size + 1, 2, none⟩ = some (.slice B2 m2 e2) ∧ w'.cell? ⟨w.heap.size + 1 + 1, 0, none⟩ = some (.bool b3) ∧ w'.cell? ⟨w.heap.size + 1 + 1, 1, none⟩ = some (.slice A3 n3 c3) ∧ w'.cell? ⟨w.heap.size + 1 + 1, 2, none⟩ = some (.slice B3 m3 e3)) (by kernel_rfl) ?_ (fun hHeld => ?_)
            · (focus (refine HK.out _ ?_; (repeat (first | (with_reducible exact Below.refl _ _) | (with_reducible refine bl_drew ?_) | (focus ((with_reducible apply bl_call'); with_reducible assumption)))); done))
            refine wpAnyH_take (i := 0) (oi := ({ dst := some 54, op := Op.load 24 (Operand.tmp 5), type := 24, pos := "law.go:118", after := #[], guard := none } : Oper)) (v := (.agg #[.bool b3, .slice A3 n3 c3, .slice B3 m3 e3])) rfl (by kernel_rfl) (by kernel_rfl) (by kernel_rfl) (fun _ _ _ h => h) (Or.inl ⟨by rfl, ?_⟩) (by assumption) ?_
            · (intro w hSw; (try dsimp only at hSw); go_simp)
            (try simp only [Act.put, List.setIfInBounds_toArray, List.set_cons_zero, List.set_cons_succ])
            refine wpAnyH_ready (rs := [1]) (by kernel_rfl) (by simp) ?_
            refine AllReadyH.cons (o := ({ dst := some 55, op := Op.call { callee := Callee.value (Operand.func 52), args := #[Operand.tmp 54], argTypes := #[24] }, type := 3, pos := "law.go:118", after := #[{ on := 0, ground := Ground.data }], guard := none } : Oper)) rfl (fun K hK => ?_) AllReadyH.nil
            go_simp
            (go_at_call 52; apply Calls.mono (sign_n ?hv ?hL); (case hv => (apply num_at ?h1 ?h2; (case h1 => with_reducible assumption); (case h2 => (repeat (first | (with_reducible exact Below.refl _ _) | (with_reducible refine bl_drew ?_) | (focus ((with_reducible apply bl_call'); with_reducible assumption))))))); (case hL => (exact Nat.le_of_ble_eq_true rfl)); (rw [FS.out]); rintro e vw ⟨rfl, vb⟩)
            go_wp2_with fail
            refine hK.out _ _ ?_ (fun hHeld2 => ?_)
            · (focus (refine HK.out _ ?_; (repeat (first | (with_reducible exact Below.refl _ _) | (with_reducible refine bl_drew ?_) | (focus ((with_reducible apply bl_call'); with_reducible assumption)))); done))
            clear hK K
            (try simp only [Act.put, List.setIfInBounds_toArray, List.set_cons_zero, List.set_cons_succ])
            refine wpAnyH_take (i := 2) (oi := ({ dst := some 56, op := Op.binOp BinOp.gtr 3 (Operand.tmp 55) (Operand.const (Value.int IntKind.i64 0)) 3, type := 4, pos := "law.go:118", after := #[{ on := 1, ground := Ground.data }], guard := none } : Oper)) (v := (.bool false)) rfl (by kernel_rfl) (by kernel_rfl) (by kernel_rfl) (fun _ _ _ h => h) (Or.inl ⟨by rfl, ?_⟩) (by assumption) ?_
            · (intro w hSw; (try dsimp only at hSw); go_simp)
            (try simp only [Act.put, List.setIfInBounds_toArray, List.set_cons_zero, List.set_cons_succ])
            refine wpAnyH_take (i := 3) (oi := ({ dst := some 57, op := Op.move (Operand.tmp 56), type := 4, pos := "law.go:118", after := #[{ on := 2, ground := Ground.data }, { on := 1, ground := Ground.chain }], guard := none } : Oper)) (v := (.bool false)) rfl (by kernel_rfl) (by kernel_rfl) (by kernel_rfl) (fun _ _ _ h => h) (Or.inl ⟨by rfl, ?_⟩) (by assumption) ?_
            · (intro w hSw; (try dsimp only at hSw); go_simp)
            (try simp only [Act.put, List.setIfInBounds_toArray, List.set_cons_zero, List.set_cons_succ])
            refine wpAnyH_take (i := 4) (oi := ({ dst := some 58, op := Op.load 24 (Operand.tmp 3), type := 24, pos := "law.go:118", after := #[{ on := 3, ground := Ground.guard }], guard := some (3, true) } : Oper)) (v := undef) rfl (by kernel_rfl) (by kernel_rfl) (by kernel_rfl) (fun _ _ _ h => h) (Or.inr ⟨by rfl, rfl⟩) (by assumption) ?_
            (try simp only [Act.put, List.setIfInBounds_toArray, List.set_cons_zero, List.set_cons_succ])
            refine wpAnyH_take (i := 5) (oi := ({ dst := some 59, op := Op.load 24 (Operand.tmp 5), type := 24, pos := "law.go:118", after := #[{ on := 3, ground := Ground.guard }], guard := some (3, true) } : Oper)) (v := undef) rfl (by kernel_rfl) (by kernel_rfl) (by kernel_rfl) (fun _ _ _ h => h) (Or.inr ⟨by rfl, rfl⟩) (by assumption) ?_
            (try simp only [Act.put, List.setIfInBounds_toArray, List.set_cons_zero, List.set_cons_succ])
            refine wpAnyH_take (i := 6) (oi := ({ dst := some 60, op := Op.call { callee := Callee.value (Operand.func 21), args := #[Operand.tmp 58, Operand.tmp 59], argTypes := #[24, 24] }, type := 24, pos := "law.go:118", after := #[{ on := 4, ground := Ground.data }, { on := 5, ground := Ground.data }, { on := 3, ground := Ground.chain }, { on := 3, ground := Ground.guard }], guard := some (3, true) } : Oper)) (v := undef) rfl (by kernel_rfl) (by kernel_rfl) (by kernel_rfl) (fun _ _ _ h => h) (Or.inr ⟨by rfl, rfl⟩) (by assumption) ?_
            (try simp only [Act.put, List.setIfInBounds_toArray, List.set_cons_zero, List.set_cons_succ])
            refine wpAnyH_take (i := 7) (oi := ({ dst := some 61, op := Op.load 24 (Operand.tmp 4), type := 24, pos := "law.go:118", after := #[{ on := 3, ground := Ground.guard }], guard := some (3, true) } : Oper)) (v := undef) rfl (by kernel_rfl) (by kernel_rfl) (by kernel_rfl) (fun _ _ _ h => h) (Or.inr ⟨by rfl, rfl⟩) (by assumption) ?_
            (try simp only [Act.put, List.setIfInBounds_toArray, List.set_cons_zero, List.set_cons_succ])
            refine wpAnyH_take (i := 8) (oi := ({ dst := some 62, op := Op.load 24 (Operand.tmp 5), type := 24, pos := "law.go:118", after := #[{ on := 3, ground := Ground.guard }], guard := some (3, true) } : Oper)) (v := undef) rfl (by kernel_rfl) (by kernel_rfl) (by kernel_rfl) (fun _ _ _ h => h) (Or.inr ⟨by rfl, rfl⟩) (by assumption) ?_
            (try simp only [Act.put, List.setIfInBounds_toArray, List.set_cons_zero, List.set_cons_succ])
            refine wpAnyH_take (i := 9) (oi := ({ dst := some 63, op := Op.call { callee := Callee.value (Operand.func 21), args := #[Operand.tmp 61, Operand.tmp 62], argTypes := #[24, 24] }, type := 24, pos := "law.go:118", after := #[{ on := 7, ground := Ground.data }, { on := 8, ground := Ground.data }, { on := 6, ground := Ground.chain }, { on := 3, ground := Ground.guard }], guard := some (3, true) } : Oper)) (v := undef) rfl (by kernel_rfl) (by kernel_rfl) (by kernel_rfl) (fun _ _ _ h => h) (Or.inr ⟨by rfl, rfl⟩) (by assumption) ?_
            (try simp only [Act.put, List.setIfInBounds_toArray, List.set_cons_zero, List.set_cons_succ])
            refine wpAnyH_take (i := 10) (oi := ({ dst := some 64, op := Op.call { callee := Callee.value (Operand.func 47), args := #[Operand.tmp 60, Operand.tmp 63], argTypes := #[24, 24] }, type := 3, pos := "law.go:118", after := #[{ on := 6, ground := Ground.data }, { on := 9, ground := Ground.data }, { on := 9, ground := Ground.chain }, { on := 3, ground := Ground.guard }], guard := some (3, true) } : Oper)) (v := undef) rfl (by kernel_rfl) (by kernel_rfl) (by kernel_rfl) (fun _ _ _ h => h) (Or.inr ⟨by rfl, rfl⟩) (by assumption) ?_
            (try simp only [Act.put, List.setIfInBounds_toArray, List.set_cons_zero, List.set_cons_succ])
            refine wpAnyH_take (i := 11) (oi := ({ dst := some 65, op := Op.move (Operand.tmp 7), type := 3, pos := "law.go:118", after := #[{ on := 3, ground := Ground.guard }], guard := some (3, true) } : Oper)) (v := undef) rfl (by kernel_rfl) (by kernel_rfl) (by kernel_rfl) (fun _ _ _ h => h) (Or.inr ⟨by rfl, rfl⟩) (by assumption) ?_
            (try simp only [Act.put, List.setIfInBounds_toArray, List.set_cons_zero, List.set_cons_succ])
            refine wpAnyH_take (i := 12) (oi := ({ dst := some 66, op := Op.binOp BinOp.neq 3 (Operand.tmp 64) (Operand.tmp 65) 3, type := 4, pos := "law.go:118", after := #[{ on := 10, ground := Ground.data }, { on := 11, ground := Ground.data }, { on := 3, ground := Ground.guard }], guard := some (3, true) } : Oper)) (v := undef) rfl (by kernel_rfl) (by kernel_rfl) (by kernel_rfl) (fun _ _ _ h => h) (Or.inr ⟨by rfl, rfl⟩) (by assumption) ?_
            (try simp only [Act.put, List.setIfInBounds_toArray, List.set_cons_zero, List.set_cons_succ])
            refine wpAnyH_take (i := 13) (oi := ({ dst := some 67, op := Op.pick (Operand.tmp 57) (Operand.tmp 66) (Operand.const (Value.bool false)), type := 4, pos := "law.go:118", after := #[{ on := 3, ground := Ground.data }, { on := 12, ground := Ground.data }], guard := none } : Oper)) (v := (.bool false)) rfl (by kernel_rfl) (by kernel_rfl) (by kernel_rfl) (fun _ _ _ h => h) (Or.inl ⟨by rfl, ?_⟩) (by assumption) ?_
            · (intro w hSw; (try dsimp only at hSw); go_simp)
            (try simp only [Act.put, List.setIfInBounds_toArray, List.set_cons_zero, List.set_cons_succ])
            refine wpAnyH_done (by kernel_rfl) ?_ _
            refine NoPanic.normal ?_
            go_wp2
            go_meet
            go_light
            exact ⟨rfl, by repeat (first | (with_reducible exact Below.refl _ _) | (with_reducible refine bl_drew ?_) | (focus ((with_reducible apply bl_call'); with_reducible assumption)))⟩
          · refine wp_region_noPanic ?_
            refine wp_region_held_drew (S := fun w' => w'.cell? ⟨w.heap.size, 0, none⟩ = some (.bool b1) ∧ w'.cell? ⟨w.heap.size, 1, none⟩ = some (.slice A1 n1 c1) ∧ w'.cell? ⟨w.heap.size, 2, none⟩ = some (.slice B1 m1 e1) ∧ w'.cell? ⟨w.heap.size + 1, 0, none⟩ = some (.bool b2) ∧ w'.cell? ⟨w.heap.size + 1, 1, none⟩ = some (.slice A2 n2 c2) ∧ w'.cell? ⟨w.heap.size + 1, 2, none⟩ = some (.slice B2 m2 e2) ∧ w'.cell? ⟨w.heap.size + 1 + 1, 0, none⟩ = some (.bool b3) ∧ w'.cell? ⟨w.heap.size + 1 + 1, 1, none⟩ = some (.slice A3 n3 c3) ∧ w'.cell? ⟨w.heap.size + 1 + 1, 2, none⟩ = some (.slice B3 m3 e3)) (by kernel_rfl) ?_ (fun hHeld => ?_)
            · (focus (refine HK.out _ ?_; (repeat (first | (with_reducible exact Below.refl _ _) | (with_reducible refine bl_drew ?_) | (focus ((with_reducible apply bl_call'); with_reducible assumption)))); done))
            refine wpAnyH_take (i := 0) (oi := ({ dst := some 54, op := Op.load 24 (Operand.tmp 5), type := 24, pos := "law.go:118", after := #[], guard := none } : Oper)) (v := (.agg #[.bool b3, .slice A3 n3 c3, .slice B3 m3 e3])) rfl (by kernel_rfl) (by kernel_rfl) (by kernel_rfl) (fun _ _ _ h => h) (Or.inl ⟨by rfl, ?_⟩) (by assumption) ?_
            · (intro w hSw; (try dsimp only at hSw); go_simp)
            (try simp only [Act.put, List.setIfInBounds_toArray, List.set_cons_zero, List.set_cons_succ])
            refine wpAnyH_ready (rs := [1]) (by kernel_rfl) (by simp) ?_
            refine AllReadyH.cons (o := ({ dst := some 55, op := Op.call { callee := Callee.value (Operand.func 52), args := #[Operand.tmp 54], argTypes := #[24] }, type := 3, pos := "law.go:118", after := #[{ on := 0, ground := Ground.data }], guard := none } : Oper)) rfl (fun K hK => ?_) AllReadyH.nil
            go_simp
            (go_at_call 52; apply Calls.mono (sign_n ?hv ?hL); (case hv => (apply num_at ?h1 ?h2; (case h1 => with_reducible assumption); (case h2 => (repeat (first | (with_reducible exact Below.refl _ _) | (with_reducible refine bl_drew ?_) | (focus ((with_reducible apply bl_call'); with_reducible assumption))))))); (case hL => (exact Nat.le_of_ble_eq_true rfl)); (rw [FS.out]); rintro e vw ⟨rfl, vb⟩)
            go_wp2_with fail
            refine hK.out _ _ ?_ (fun hHeld2 => ?_)
            · (focus (refine HK.out _ ?_; (repeat (first | (with_reducible exact Below.refl _ _) | (with_reducible refine bl_drew ?_) | (focus ((with_reducible apply bl_call'); with_reducible assumption)))); done))
            clear hK K
            (try simp only [Act.put, List.setIfInBounds_toArray, List.set_cons_zero, List.set_cons_succ])
            refine wpAnyH_take (i := 2) (oi := ({ dst := some 56, op := Op.binOp BinOp.gtr 3 (Operand.tmp 55) (Operand.const (Value.int IntKind.i64 0)) 3, type := 4, pos := "law.go:118", after := #[{ on := 1, ground := Ground.data }], guard := none } : Oper)) (v := (.bool false)) rfl (by kernel_rfl) (by kernel_rfl) (by kernel_rfl) (fun _ _ _ h => h) (Or.inl ⟨by rfl, ?_⟩) (by assumption) ?_
            · (intro w hSw; (try dsimp only at hSw); go_simp)
            (try simp only [Act.put, List.setIfInBounds_toArray, List.set_cons_zero, List.set_cons_succ])
            refine wpAnyH_take (i := 3) (oi := ({ dst := some 57, op := Op.move (Operand.tmp 56), type := 4, pos := "law.go:118", after := #[{ on := 2, ground := Ground.data }, { on := 1, ground := Ground.chain }], guard := none } : Oper)) (v := (.bool false)) rfl (by kernel_rfl) (by kernel_rfl) (by kernel_rfl) (fun _ _ _ h => h) (Or.inl ⟨by rfl, ?_⟩) (by assumption) ?_
            · (intro w hSw; (try dsimp only at hSw); go_simp)
            (try simp only [Act.put, List.setIfInBounds_toArray, List.set_cons_zero, List.set_cons_succ])
            refine wpAnyH_take (i := 4) (oi := ({ dst := some 58, op := Op.load 24 (Operand.tmp 3), type := 24, pos := "law.go:118", after := #[{ on := 3, ground := Ground.guard }], guard := some (3, true) } : Oper)) (v := undef) rfl (by kernel_rfl) (by kernel_rfl) (by kernel_rfl) (fun _ _ _ h => h) (Or.inr ⟨by rfl, rfl⟩) (by assumption) ?_
            (try simp only [Act.put, List.setIfInBounds_toArray, List.set_cons_zero, List.set_cons_succ])
            refine wpAnyH_take (i := 5) (oi := ({ dst := some 59, op := Op.load 24 (Operand.tmp 5), type := 24, pos := "law.go:118", after := #[{ on := 3, ground := Ground.guard }], guard := some (3, true) } : Oper)) (v := undef) rfl (by kernel_rfl) (by kernel_rfl) (by kernel_rfl) (fun _ _ _ h => h) (Or.inr ⟨by rfl, rfl⟩) (by assumption) ?_
            (try simp only [Act.put, List.setIfInBounds_toArray, List.set_cons_zero, List.set_cons_succ])
            refine wpAnyH_take (i := 6) (oi := ({ dst := some 60, op := Op.call { callee := Callee.value (Operand.func 21), args := #[Operand.tmp 58, Operand.tmp 59], argTypes := #[24, 24] }, type := 24, pos := "law.go:118", after := #[{ on := 4, ground := Ground.data }, { on := 5, ground := Ground.data }, { on := 3, ground := Ground.chain }, { on := 3, ground := Ground.guard }], guard := some (3, true) } : Oper)) (v := undef) rfl (by kernel_rfl) (by kernel_rfl) (by kernel_rfl) (fun _ _ _ h => h) (Or.inr ⟨by rfl, rfl⟩) (by assumption) ?_
            (try simp only [Act.put, List.setIfInBounds_toArray, List.set_cons_zero, List.set_cons_succ])
            refine wpAnyH_take (i := 7) (oi := ({ dst := some 61, op := Op.load 24 (Operand.tmp 4), type := 24, pos := "law.go:118", after := #[{ on := 3, ground := Ground.guard }], guard := some (3, true) } : Oper)) (v := undef) rfl (by kernel_rfl) (by kernel_rfl) (by kernel_rfl) (fun _ _ _ h => h) (Or.inr ⟨by rfl, rfl⟩) (by assumption) ?_
            (try simp only [Act.put, List.setIfInBounds_toArray, List.set_cons_zero, List.set_cons_succ])
            refine wpAnyH_take (i := 8) (oi := ({ dst := some 62, op := Op.load 24 (Operand.tmp 5), type := 24, pos := "law.go:118", after := #[{ on := 3, ground := Ground.guard }], guard := some (3, true) } : Oper)) (v := undef) rfl (by kernel_rfl) (by kernel_rfl) (by kernel_rfl) (fun _ _ _ h => h) (Or.inr ⟨by rfl, rfl⟩) (by assumption) ?_
            (try simp only [Act.put, List.setIfInBounds_toArray, List.set_cons_zero, List.set_cons_succ])
            refine wpAnyH_take (i := 9) (oi := ({ dst := some 63, op := Op.call { callee := Callee.value (Operand.func 21), args := #[Operand.tmp 61, Operand.tmp 62], argTypes := #[24, 24] }, type := 24, pos := "law.go:118", after := #[{ on := 7, ground := Ground.data }, { on := 8, ground := Ground.data }, { on := 6, ground := Ground.chain }, { on := 3, ground := Ground.guard }], guard := some (3, true) } : Oper)) (v := undef) rfl (by kernel_rfl) (by kernel_rfl) (by kernel_rfl) (fun _ _ _ h => h) (Or.inr ⟨by rfl, rfl⟩) (by assumption) ?_
            (try simp only [Act.put, List.setIfInBounds_toArray, List.set_cons_zero, List.set_cons_succ])
            refine wpAnyH_take (i := 10) (oi := ({ dst := some 64, op := Op.call { callee := Callee.value (Operand.func 47), args := #[Operand.tmp 60, Operand.tmp 63], argTypes := #[24, 24] }, type := 3, pos := "law.go:118", after := #[{ on := 6, ground := Ground.data }, { on := 9, ground := Ground.data }, { on := 9, ground := Ground.chain }, { on := 3, ground := Ground.guard }], guard := some (3, true) } : Oper)) (v := undef) rfl (by kernel_rfl) (by kernel_rfl) (by kernel_rfl) (fun _ _ _ h => h) (Or.inr ⟨by rfl, rfl⟩) (by assumption) ?_
            (try simp only [Act.put, List.setIfInBounds_toArray, List.set_cons_zero, List.set_cons_succ])
            refine wpAnyH_take (i := 11) (oi := ({ dst := some 65, op := Op.move (Operand.tmp 7), type := 3, pos := "law.go:118", after := #[{ on := 3, ground := Ground.guard }], guard := some (3, true) } : Oper)) (v := undef) rfl (by kernel_rfl) (by kernel_rfl) (by kernel_rfl) (fun _ _ _ h => h) (Or.inr ⟨by rfl, rfl⟩) (by assumption) ?_
            (try simp only [Act.put, List.setIfInBounds_toArray, List.set_cons_zero, List.set_cons_succ])
            refine wpAnyH_take (i := 12) (oi := ({ dst := some 66, op := Op.binOp BinOp.neq 3 (Operand.tmp 64) (Operand.tmp 65) 3, type := 4, pos := "law.go:118", after := #[{ on := 10, ground := Ground.data }, { on := 11, ground := Ground.data }, { on := 3, ground := Ground.guard }], guard := some (3, true) } : Oper)) (v := undef) rfl (by kernel_rfl) (by kernel_rfl) (by kernel_rfl) (fun _ _ _ h => h) (Or.inr ⟨by rfl, rfl⟩) (by assumption) ?_
            (try simp only [Act.put, List.setIfInBounds_toArray, List.set_cons_zero, List.set_cons_succ])
            refine wpAnyH_take (i := 13) (oi := ({ dst := some 67, op := Op.pick (Operand.tmp 57) (Operand.tmp 66) (Operand.const (Value.bool false)), type := 4, pos := "law.go:118", after := #[{ on := 3, ground := Ground.data }, { on := 12, ground := Ground.data }], guard := none } : Oper)) (v := (.bool false)) rfl (by kernel_rfl) (by kernel_rfl) (by kernel_rfl) (fun _ _ _ h => h) (Or.inl ⟨by rfl, ?_⟩) (by assumption) ?_
            · (intro w hSw; (try dsimp only at hSw); go_simp)
            (try simp only [Act.put, List.setIfInBounds_toArray, List.set_cons_zero, List.set_cons_succ])
            refine wpAnyH_done (by kernel_rfl) ?_ _
            refine NoPanic.normal ?_
            go_wp2
            go_meet
            go_light
            exact ⟨rfl, by repeat (first | (with_reducible exact Below.refl _ _) | (with_reducible refine bl_drew ?_) | (focus ((with_reducible apply bl_call'); with_reducible assumption)))⟩
        case rest =>
          obtain ⟨rfl, hbx⟩ := hcut
          have K8 := Lib.hid (bl_call K6.out hbx)
          have P1 := Lib.hid (L1.out.below hbx)
          have P2 := Lib.hid (L2.out.below hbx)
          have P3 := Lib.hid (L3.out.below hbx)
          obtain ⟨w8, hx⟩ : ∃ x, x = wc := ⟨_, rfl⟩
          subst hx
          clear HK hbx
          have HK := Lib.hid (show ∀ w', Below w8.heap.size w8 w' → (w'.cell? ⟨w.heap.size, 0, none⟩ = some (.bool b1) ∧ w'.cell? ⟨w.heap.size, 1, none⟩ = some (.slice A1 n1 c1) ∧ w'.cell? ⟨w.heap.size, 2, none⟩ = some (.slice B1 m1 e1) ∧ w'.cell? ⟨w.heap.size + 1, 0, none⟩ = some (.bool b2) ∧ w'.cell? ⟨w.heap.size + 1, 1, none⟩ = some (.slice A2 n2 c2) ∧ w'.cell? ⟨w.heap.size + 1, 2, none⟩ = some (.slice B2 m2 e2) ∧ w'.cell? ⟨w.heap.size + 1 + 1, 0, none⟩ = some (.bool b3) ∧ w'.cell? ⟨w.heap.size + 1 + 1, 1, none⟩ = some (.slice A3 n3 c3) ∧ w'.cell? ⟨w.heap.size + 1 + 1, 2, none⟩ = some (.slice B3 m3 e3)) from fun w' hb => by
            obtain ⟨y0, y1, y2, y3, y4, y5, y6, y7, y8, y9, y10, y11⟩ := HC.out w' (bl_call K8.out hb)
            exact ⟨y0, y1, y2, y3, y4, y5, y6, y7, y8⟩)
          go_upto_region 10 with (fail)
          go_region_held3 (fun w' => w'.cell? ⟨w.heap.size, 0, none⟩ = some (.bool b1) ∧ w'.cell? ⟨w.heap.size, 1, none⟩ = some (.slice A1 n1 c1) ∧ w'.cell? ⟨w.heap.size, 2, none⟩ = some (.slice B1 m1 e1) ∧ w'.cell? ⟨w.heap.size + 1, 0, none⟩ = some (.bool b2) ∧ w'.cell? ⟨w.heap.size + 1, 1, none⟩ = some (.slice A2 n2 c2) ∧ w'.cell? ⟨w.heap.size + 1, 2, none⟩ = some (.slice B2 m2 e2) ∧ w'.cell? ⟨w.heap.size + 1 + 1, 0, none⟩ = some (.bool b3) ∧ w'.cell? ⟨w.heap.size + 1 + 1, 1, none⟩ = some (.slice A3 n3 c3) ∧ w'.cell? ⟨w.heap.size + 1 + 1, 2, none⟩ = some (.slice B3 m3 e3))
            (first
              | (focus (refine HK.out _ ?_; (repeat (first | (with_reducible exact Below.refl _ _) | (with_reducible refine bl_drew ?_) | (focus ((with_reducible apply bl_call'); with_reducible assumption)))); done)))
            (first
              | (go_at_call 43; apply Calls.mono (add_n ?hv ?hu ?hL ?hM); (case hv => (apply num_at ?h1 ?h2; (case h1 => with_reducible assumption); (case h2 => (repeat (first | (with_reducible exact Below.refl _ _) | (with_reducible refine bl_drew ?_) | (focus ((with_reducible apply bl_call'); with_reducible assumption))))))); (case hu => (apply num_at ?h1 ?h2; (case h1 => with_reducible assumption); (case h2 => (repeat (first | (with_reducible exact Below.refl _ _) | (with_reducible refine bl_drew ?_) | (focus ((with_reducible apply bl_call'); with_reducible assumption))))))); (case hL => (exact Nat.le_of_ble_eq_true rfl)); (case hM => (exact Nat.le_of_ble_eq_true rfl)); rintro e vw ⟨vz, rfl, vh, vb⟩; have VH := Lib.hid vh; clear vh)
              | (go_at_call 47; apply Calls.mono (cmp_n ?hv ?hu ?hL ?hM); (case hv => (apply num_at ?h1 ?h2; (case h1 => with_reducible assumption); (case h2 => (repeat (first | (with_reducible exact Below.refl _ _) | (with_reducible refine bl_drew ?_) | (focus ((with_reducible apply bl_call'); with_reducible assumption))))))); (case hu => (apply num_at ?h1 ?h2; (case h1 => with_reducible assumption); (case h2 => (repeat (first | (with_reducible exact Below.refl _ _) | (with_reducible refine bl_drew ?_) | (focus ((with_reducible apply bl_call'); with_reducible assumption))))))); (case hL => (exact Nat.le_of_ble_eq_true rfl)); (case hM => (exact Nat.le_of_ble_eq_true rfl)); (rw [FA.out]); rintro e vw ⟨rfl, vb⟩)
              | (go_at_call 45; apply Calls.mono (sub_n ?hv ?hu ?hL ?hM); (case hv => (apply num_at ?h1 ?h2; (case h1 => with_reducible assumption); (case h2 => (repeat (first | (with_reducible exact Below.refl _ _) | (with_reducible refine bl_drew ?_) | (focus ((with_reducible apply bl_call'); with_reducible assumption))))))); (case hu => (apply num_at ?h1 ?h2; (case h1 => with_reducible assumption); (case h2 => (repeat (first | (with_reducible exact Below.refl _ _) | (with_reducible refine bl_drew ?_) | (focus ((with_reducible apply bl_call'); with_reducible assumption))))))); (case hL => (exact Nat.le_of_ble_eq_true rfl)); (case hM => (exact Nat.le_of_ble_eq_true rfl)); rintro e vw ⟨vz, rfl, vh, vb⟩; have VH := Lib.hid vh; clear vh)
              | (go_at_call 52; apply Calls.mono (sign_n ?hv ?hL); (case hv => (apply num_at ?h1 ?h2; (case h1 => with_reducible assumption); (case h2 => (repeat (first | (with_reducible exact Below.refl _ _) | (with_reducible refine bl_drew ?_) | (focus ((with_reducible apply bl_call'); with_reducible assumption))))))); (case hL => (exact Nat.le_of_ble_eq_true rfl)); (rw [F12.out]); rintro e vw ⟨rfl, vb⟩)
              | (go_at_call 23; refine (awake_any _).mono ?_; rintro e vw ⟨rfl, vb⟩))
          all_goals go_wp2_with fail
          all_goals go_ret
          all_goals exact ⟨rfl, bl_call (bl_call HW0.out K8.out) (by repeat (first | (with_reducible exact Below.refl _ _) | (with_reducible refine bl_drew ?_) | (focus ((with_reducible apply bl_call'); with_reducible assumption))))⟩
      
  · have FD := Lib.hid (show decide (X1 = X2) = false from by
      have := FZ.out
      simp at this; simpa using this)
    have F21 := Lib.hid (show sgnZ (X2 - X1) = -1 from by have := F21.out; omega)
    clear hC1
    have hw : IntKind.i64.wrap (-1) = -1 := rfl
    have hw1 : IntKind.i64.wrap 1 = 1 := rfl
    have hwn : IntKind.i64.wrap (- -1) = 1 := rfl
    have hw0 : IntKind.i64.wrap 0 = 0 := rfl
    have hwz : IntKind.i64.wrap (-0) = 0 := rfl
    go_wp2_with fail
    apply Calls.mono (cmp_n ?hv ?hu ?hL ?hM)
    case hv => exact N1.out
    case hu => exact N2.out
    case hL => (exact Nat.le_of_ble_eq_true rfl)
    case hM => (exact Nat.le_of_ble_eq_true rfl)
    rw [F12.out]
    rintro e w4 ⟨rfl, hb4⟩
    have K4 := Lib.hid (bl_call T3.out hb4)
    have N1' := Lib.hid (N1.out.below hb4)
    have N2' := Lib.hid (N2.out.below hb4)
    have N3' := Lib.hid (N3.out.below hb4)
    clear y0 y1 y2 y3 y4 y5 y6 y7 y8 y9 y10 y11 hb4
    have HK := Lib.hid (show ∀ w', Below w4.heap.size w4 w' → (w'.cell? ⟨w.heap.size, 0, none⟩ = some (.bool b1) ∧ w'.cell? ⟨w.heap.size, 1, none⟩ = some (.slice A1 n1 c1) ∧ w'.cell? ⟨w.heap.size, 2, none⟩ = some (.slice B1 m1 e1) ∧ w'.cell? ⟨w.heap.size + 1, 0, none⟩ = some (.bool b2) ∧ w'.cell? ⟨w.heap.size + 1, 1, none⟩ = some (.slice A2 n2 c2) ∧ w'.cell? ⟨w.heap.size + 1, 2, none⟩ = some (.slice B2 m2 e2) ∧ w'.cell? ⟨w.heap.size + 1 + 1, 0, none⟩ = some (.bool b3) ∧ w'.cell? ⟨w.heap.size + 1 + 1, 1, none⟩ = some (.slice A3 n3 c3) ∧ w'.cell? ⟨w.heap.size + 1 + 1, 2, none⟩ = some (.slice B3 m3 e3)) from fun w' hb => by
      obtain ⟨y0, y1, y2, y3, y4, y5, y6, y7, y8, y9, y10, y11⟩ := HC.out w' (bl_call K4.out hb)
      exact ⟨y0, y1, y2, y3, y4, y5, y6, y7, y8⟩)
    go_upto_region 4 with (fail)
    go_cut [39] (fun vr wc => vr = .bool false ∧ Below w4.heap.size w4 wc)
    case first =>
      go_region_held3 (fun w' => w'.cell? ⟨w.heap.size, 0, none⟩ = some (.bool b1) ∧ w'.cell? ⟨w.heap.size, 1, none⟩ = some (.slice A1 n1 c1) ∧ w'.cell? ⟨w.heap.size, 2, none⟩ = some (.slice B1 m1 e1) ∧ w'.cell? ⟨w.heap.size + 1, 0, none⟩ = some (.bool b2) ∧ w'.cell? ⟨w.heap.size + 1, 1, none⟩ = some (.slice A2 n2 c2) ∧ w'.cell? ⟨w.heap.size + 1, 2, none⟩ = some (.slice B2 m2 e2) ∧ w'.cell? ⟨w.heap.size + 1 + 1, 0, none⟩ = some (.bool b3) ∧ w'.cell? ⟨w.heap.size + 1 + 1, 1, none⟩ = some (.slice A3 n3 c3) ∧ w'.cell? ⟨w.heap.size + 1 + 1, 2, none⟩ = some (.slice B3 m3 e3))
        (first
          | (focus (refine HK.out _ ?_; (repeat (first | (with_reducible exact Below.refl _ _) | (with_reducible refine bl_drew ?_) | (focus ((with_reducible apply bl_call'); with_reducible assumption)))); done)))
        (first
          | (go_at_call 47; apply Calls.mono (cmp_n ?hv ?hu ?hL ?hM); (case hv => (apply num_at ?h1 ?h2; (case h1 => with_reducible assumption); (case h2 => (repeat (first | (with_reducible exact Below.refl _ _) | (with_reducible refine bl_drew ?_) | (focus ((with_reducible apply bl_call'); with_reducible assumption))))))); (case hu => (apply num_at ?h1 ?h2; (case h1 => with_reducible assumption); (case h2 => (repeat (first | (with_reducible exact Below.refl _ _) | (with_reducible refine bl_drew ?_) | (focus ((with_reducible apply bl_call'); with_reducible assumption))))))); (case hL => (exact Nat.le_of_ble_eq_true rfl)); (case hM => (exact Nat.le_of_ble_eq_true rfl)); (first | rw [F21.out] | rw [F12.out] | rw [FA.out] | rw [FE.out] | rw [FG.out]); rintro e vw ⟨rfl, vb⟩)
          | (go_at_call 48; apply Calls.mono (canon_n ?hv ?hL); (case hv => (apply num_at ?h1 ?h2; (case h1 => with_reducible assumption); (case h2 => (repeat (first | (with_reducible exact Below.refl _ _) | (with_reducible refine bl_drew ?_) | (focus ((with_reducible apply bl_call'); with_reducible assumption))))))); (case hL => (exact Nat.le_of_ble_eq_true rfl)); rintro e vw ⟨vz, rfl, vh, vb⟩; have VH := Lib.hid vh; clear vh)
          | (go_at_call 20; apply Calls.mono (same_dec ?hv ?hu); (case hv => (apply num_at ?h1 ?h2; (case h1 => with_reducible assumption); (case h2 => (repeat (first | (with_reducible exact Below.refl _ _) | (with_reducible refine bl_drew ?_) | (focus ((with_reducible apply bl_call'); with_reducible assumption))))))); (case hu => (apply num_at ?h1 ?h2; (case h1 => with_reducible assumption); (case h2 => (repeat (first | (with_reducible exact Below.refl _ _) | (with_reducible refine bl_drew ?_) | (focus ((with_reducible apply bl_call'); with_reducible assumption))))))); (rw [FD.out]); rintro e vw ⟨rfl, vb⟩))
      all_goals (go_wp2; go_meet)
      all_goals (go_light; exact ⟨rfl, by repeat (first | (with_reducible exact Below.refl _ _) | (with_reducible refine bl_drew ?_) | (focus ((with_reducible apply bl_call'); with_reducible assumption)))⟩)
    case rest =>
      obtain ⟨rfl, hb5⟩ := hcut
      have K5 := Lib.hid (bl_call K4.out hb5)
      have M1 := Lib.hid (N1'.out.below hb5)
      have M2 := Lib.hid (N2'.out.below hb5)
      have M3 := Lib.hid (N3'.out.below hb5)
      obtain ⟨w5, h5⟩ : ∃ x, x = wc := ⟨_, rfl⟩
      subst h5
      obtain ⟨y0, y1, y2, y3, y4, y5, y6, y7, y8, y9, y10, y11⟩ := HC.out w5 K5.out
      clear HK hb5
      have HK := Lib.hid (show ∀ w', Below w5.heap.size w5 w' → (w'.cell? ⟨w.heap.size, 0, none⟩ = some (.bool b1) ∧ w'.cell? ⟨w.heap.size, 1, none⟩ = some (.slice A1 n1 c1) ∧ w'.cell? ⟨w.heap.size, 2, none⟩ = some (.slice B1 m1 e1) ∧ w'.cell? ⟨w.heap.size + 1, 0, none⟩ = some (.bool b2) ∧ w'.cell? ⟨w.heap.size + 1, 1, none⟩ = some (.slice A2 n2 c2) ∧ w'.cell? ⟨w.heap.size + 1, 2, none⟩ = some (.slice B2 m2 e2) ∧ w'.cell? ⟨w.heap.size + 1 + 1, 0, none⟩ = some (.bool b3) ∧ w'.cell? ⟨w.heap.size + 1 + 1, 1, none⟩ = some (.slice A3 n3 c3) ∧ w'.cell? ⟨w.heap.size + 1 + 1, 2, none⟩ = some (.slice B3 m3 e3)) from fun w' hb => by
        obtain ⟨y0, y1, y2, y3, y4, y5, y6, y7, y8, y9, y10, y11⟩ := HC.out w' (bl_call K5.out hb)
        exact ⟨y0, y1, y2, y3, y4, y5, y6, y7, y8⟩)
      clear y0 y1 y2 y3 y4 y5 y6 y7 y8 y9 y10 y11
      go_upto_region 8 with (fail)
      go_cut [67] (fun vr wc => vr = .bool false ∧ Below w5.heap.size w5 wc)
      case first =>
        rcases hS3 with rfl | rfl | rfl
        · have FM9 := Lib.hid (FM.out (by omega))
          go_region_held3 (fun w' => w'.cell? ⟨w.heap.size, 0, none⟩ = some (.bool b1) ∧ w'.cell? ⟨w.heap.size, 1, none⟩ = some (.slice A1 n1 c1) ∧ w'.cell? ⟨w.heap.size, 2, none⟩ = some (.slice B1 m1 e1) ∧ w'.cell? ⟨w.heap.size + 1, 0, none⟩ = some (.bool b2) ∧ w'.cell? ⟨w.heap.size + 1, 1, none⟩ = some (.slice A2 n2 c2) ∧ w'.cell? ⟨w.heap.size + 1, 2, none⟩ = some (.slice B2 m2 e2) ∧ w'.cell? ⟨w.heap.size + 1 + 1, 0, none⟩ = some (.bool b3) ∧ w'.cell? ⟨w.heap.size + 1 + 1, 1, none⟩ = some (.slice A3 n3 c3) ∧ w'.cell? ⟨w.heap.size + 1 + 1, 2, none⟩ = some (.slice B3 m3 e3))
            (first
              | (focus (refine HK.out _ ?_; (repeat (first | (with_reducible exact Below.refl _ _) | (with_reducible refine bl_drew ?_) | (focus ((with_reducible apply bl_call'); with_reducible assumption)))); done)))
            (first
              | (go_at_call 52; apply Calls.mono (sign_n ?hv ?hL); (case hv => (apply num_at ?h1 ?h2; (case h1 => with_reducible assumption); (case h2 => (repeat (first | (with_reducible exact Below.refl _ _) | (with_reducible refine bl_drew ?_) | (focus ((with_reducible apply bl_call'); with_reducible assumption))))))); (case hL => (exact Nat.le_of_ble_eq_true rfl)); (rw [FS.out]); rintro e vw ⟨rfl, vb⟩)
              | (go_at_call 21; apply Calls.mono (mul_n ?hv ?hu ?hL ?hM); (case hv => (apply num_at ?h1 ?h2; (case h1 => with_reducible assumption); (case h2 => (repeat (first | (with_reducible exact Below.refl _ _) | (with_reducible refine bl_drew ?_) | (focus ((with_reducible apply bl_call'); with_reducible assumption))))))); (case hu => (apply num_at ?h1 ?h2; (case h1 => with_reducible assumption); (case h2 => (repeat (first | (with_reducible exact Below.refl _ _) | (with_reducible refine bl_drew ?_) | (focus ((with_reducible apply bl_call'); with_reducible assumption))))))); (case hL => (exact Nat.le_of_ble_eq_true rfl)); (case hM => (exact Nat.le_of_ble_eq_true rfl)); rintro e vw ⟨vz, rfl, vh, vb⟩; have VH := Lib.hid vh; clear vh)
              | (go_at_call 47; apply Calls.mono (cmp_n ?hv ?hu ?hL ?hM); (case hv => (apply num_at ?h1 ?h2; (case h1 => with_reducible assumption); (case h2 => (repeat (first | (with_reducible exact Below.refl _ _) | (with_reducible refine bl_drew ?_) | (focus ((with_reducible apply bl_call'); with_reducible assumption))))))); (case hu => (apply num_at ?h1 ?h2; (case h1 => with_reducible assumption); (case h2 => (repeat (first | (with_reducible exact Below.refl _ _) | (with_reducible refine bl_drew ?_) | (focus ((with_reducible apply bl_call'); with_reducible assumption))))))); (case hL => (exact Nat.le_of_ble_eq_true rfl)); (case hM => (exact Nat.le_of_ble_eq_true rfl)); (rw [FM9.out]); rintro e vw ⟨rfl, vb⟩))
          all_goals (go_wp2; go_meet)
          all_goals (go_light; exact ⟨rfl, by repeat (first | (with_reducible exact Below.refl _ _) | (with_reducible refine bl_drew ?_) | (focus ((with_reducible apply bl_call'); with_reducible assumption)))⟩)
        · refine wp_region_noPanic ?_
          refine wp_region_held_drew (S := fun w' => w'.cell? ⟨w.heap.size, 0, none⟩ = some (.bool b1) ∧ w'.cell? ⟨w.heap.size, 1, none⟩ = some (.slice A1 n1 c1) ∧ w'.cell? ⟨w.heap.size, 2, none⟩ = some (.slice B1 m1 e1) ∧ w'.cell? ⟨w.heap.size + 1, 0, none⟩ = some (.bool b2) ∧ w'.cell? ⟨w.heap.size + 1, 1, none⟩ = some (.slice A2 n2 c2) ∧ w'.cell? ⟨w.heap.size + 1, 2, none⟩ = some (.slice B2 m2 e2) ∧ w'.cell? ⟨w.heap.size + 1 + 1, 0, none⟩ = some (.bool b3) ∧ w'.cell? ⟨w.heap.size + 1 + 1, 1, none⟩ = some (.slice A3 n3 c3) ∧ w'.cell? ⟨w.heap.size + 1 + 1, 2, none⟩ = some (.slice B3 m3 e3)) (by kernel_rfl) ?_ (fun hHeld => ?_)
          · (focus (refine HK.out _ ?_; (repeat (first | (with_reducible exact Below.refl _ _) | (with_reducible refine bl_drew ?_) | (focus ((with_reducible apply bl_call'); with_reducible assumption)))); done))
          refine wpAnyH_take (i := 0) (oi := ({ dst := some 54, op := Op.load 24 (Operand.tmp 5), type := 24, pos := "law.go:118", after := #[], guard := none } : Oper)) (v := (.agg #[.bool b3, .slice A3 n3 c3, .slice B3 m3 e3])) rfl (by kernel_rfl) (by kernel_rfl) (by kernel_rfl) (fun _ _ _ h => h) (Or.inl ⟨by rfl, ?_⟩) (by assumption) ?_
          · (intro w hSw; (try dsimp only at hSw); go_simp)
          (try simp only [Act.put, List.setIfInBounds_toArray, List.set_cons_zero, List.set_cons_succ])
          refine wpAnyH_ready (rs := [1]) (by kernel_rfl) (by simp) ?_
          refine AllReadyH.cons (o := ({ dst := some 55, op := Op.call { callee := Callee.value (Operand.func 52), args := #[Operand.tmp 54], argTypes := #[24] }, type := 3, pos := "law.go:118", after := #[{ on := 0, ground := Ground.data }], guard := none } : Oper)) rfl (fun K hK => ?_) AllReadyH.nil
          go_simp
          (go_at_call 52; apply Calls.mono (sign_n ?hv ?hL); (case hv => (apply num_at ?h1 ?h2; (case h1 => with_reducible assumption); (case h2 => (repeat (first | (with_reducible exact Below.refl _ _) | (with_reducible refine bl_drew ?_) | (focus ((with_reducible apply bl_call'); with_reducible assumption))))))); (case hL => (exact Nat.le_of_ble_eq_true rfl)); (rw [FS.out]); rintro e vw ⟨rfl, vb⟩)
          go_wp2_with fail
          refine hK.out _ _ ?_ (fun hHeld2 => ?_)
          · (focus (refine HK.out _ ?_; (repeat (first | (with_reducible exact Below.refl _ _) | (with_reducible refine bl_drew ?_) | (focus ((with_reducible apply bl_call'); with_reducible assumption)))); done))
          clear hK K
          (try simp only [Act.put, List.setIfInBounds_toArray, List.set_cons_zero, List.set_cons_succ])
          refine wpAnyH_take (i := 2) (oi := ({ dst := some 56, op := Op.binOp BinOp.gtr 3 (Operand.tmp 55) (Operand.const (Value.int IntKind.i64 0)) 3, type := 4, pos := "law.go:118", after := #[{ on := 1, ground := Ground.data }], guard := none } : Oper)) (v := (.bool false)) rfl (by kernel_rfl) (by kernel_rfl) (by kernel_rfl) (fun _ _ _ h => h) (Or.inl ⟨by rfl, ?_⟩) (by assumption) ?_
          · (intro w hSw; (try dsimp only at hSw); go_simp)
          (try simp only [Act.put, List.setIfInBounds_toArray, List.set_cons_zero, List.set_cons_succ])
          refine wpAnyH_take (i := 3) (oi := ({ dst := some 57, op := Op.move (Operand.tmp 56), type := 4, pos := "law.go:118", after := #[{ on := 2, ground := Ground.data }, { on := 1, ground := Ground.chain }], guard := none } : Oper)) (v := (.bool false)) rfl (by kernel_rfl) (by kernel_rfl) (by kernel_rfl) (fun _ _ _ h => h) (Or.inl ⟨by rfl, ?_⟩) (by assumption) ?_
          · (intro w hSw; (try dsimp only at hSw); go_simp)
          (try simp only [Act.put, List.setIfInBounds_toArray, List.set_cons_zero, List.set_cons_succ])
          refine wpAnyH_take (i := 4) (oi := ({ dst := some 58, op := Op.load 24 (Operand.tmp 3), type := 24, pos := "law.go:118", after := #[{ on := 3, ground := Ground.guard }], guard := some (3, true) } : Oper)) (v := undef) rfl (by kernel_rfl) (by kernel_rfl) (by kernel_rfl) (fun _ _ _ h => h) (Or.inr ⟨by rfl, rfl⟩) (by assumption) ?_
          (try simp only [Act.put, List.setIfInBounds_toArray, List.set_cons_zero, List.set_cons_succ])
          refine wpAnyH_take (i := 5) (oi := ({ dst := some 59, op := Op.load 24 (Operand.tmp 5), type := 24, pos := "law.go:118", after := #[{ on := 3, ground := Ground.guard }], guard := some (3, true) } : Oper)) (v := undef) rfl (by kernel_rfl) (by kernel_rfl) (by kernel_rfl) (fun _ _ _ h => h) (Or.inr ⟨by rfl, rfl⟩) (by assumption) ?_
          (try simp only [Act.put, List.setIfInBounds_toArray, List.set_cons_zero, List.set_cons_succ])
          refine wpAnyH_take (i := 6) (oi := ({ dst := some 60, op := Op.call { callee := Callee.value (Operand.func 21), args := #[Operand.tmp 58, Operand.tmp 59], argTypes := #[24, 24] }, type := 24, pos := "law.go:118", after := #[{ on := 4, ground := Ground.data }, { on := 5, ground := Ground.data }, { on := 3, ground := Ground.chain }, { on := 3, ground := Ground.guard }], guard := some (3, true) } : Oper)) (v := undef) rfl (by kernel_rfl) (by kernel_rfl) (by kernel_rfl) (fun _ _ _ h => h) (Or.inr ⟨by rfl, rfl⟩) (by assumption) ?_
          (try simp only [Act.put, List.setIfInBounds_toArray, List.set_cons_zero, List.set_cons_succ])
          refine wpAnyH_take (i := 7) (oi := ({ dst := some 61, op := Op.load 24 (Operand.tmp 4), type := 24, pos := "law.go:118", after := #[{ on := 3, ground := Ground.guard }], guard := some (3, true) } : Oper)) (v := undef) rfl (by kernel_rfl) (by kernel_rfl) (by kernel_rfl) (fun _ _ _ h => h) (Or.inr ⟨by rfl, rfl⟩) (by assumption) ?_
          (try simp only [Act.put, List.setIfInBounds_toArray, List.set_cons_zero, List.set_cons_succ])
          refine wpAnyH_take (i := 8) (oi := ({ dst := some 62, op := Op.load 24 (Operand.tmp 5), type := 24, pos := "law.go:118", after := #[{ on := 3, ground := Ground.guard }], guard := some (3, true) } : Oper)) (v := undef) rfl (by kernel_rfl) (by kernel_rfl) (by kernel_rfl) (fun _ _ _ h => h) (Or.inr ⟨by rfl, rfl⟩) (by assumption) ?_
          (try simp only [Act.put, List.setIfInBounds_toArray, List.set_cons_zero, List.set_cons_succ])
          refine wpAnyH_take (i := 9) (oi := ({ dst := some 63, op := Op.call { callee := Callee.value (Operand.func 21), args := #[Operand.tmp 61, Operand.tmp 62], argTypes := #[24, 24] }, type := 24, pos := "law.go:118", after := #[{ on := 7, ground := Ground.data }, { on := 8, ground := Ground.data }, { on := 6, ground := Ground.chain }, { on := 3, ground := Ground.guard }], guard := some (3, true) } : Oper)) (v := undef) rfl (by kernel_rfl) (by kernel_rfl) (by kernel_rfl) (fun _ _ _ h => h) (Or.inr ⟨by rfl, rfl⟩) (by assumption) ?_
          (try simp only [Act.put, List.setIfInBounds_toArray, List.set_cons_zero, List.set_cons_succ])
          refine wpAnyH_take (i := 10) (oi := ({ dst := some 64, op := Op.call { callee := Callee.value (Operand.func 47), args := #[Operand.tmp 60, Operand.tmp 63], argTypes := #[24, 24] }, type := 3, pos := "law.go:118", after := #[{ on := 6, ground := Ground.data }, { on := 9, ground := Ground.data }, { on := 9, ground := Ground.chain }, { on := 3, ground := Ground.guard }], guard := some (3, true) } : Oper)) (v := undef) rfl (by kernel_rfl) (by kernel_rfl) (by kernel_rfl) (fun _ _ _ h => h) (Or.inr ⟨by rfl, rfl⟩) (by assumption) ?_
          (try simp only [Act.put, List.setIfInBounds_toArray, List.set_cons_zero, List.set_cons_succ])
          refine wpAnyH_take (i := 11) (oi := ({ dst := some 65, op := Op.move (Operand.tmp 7), type := 3, pos := "law.go:118", after := #[{ on := 3, ground := Ground.guard }], guard := some (3, true) } : Oper)) (v := undef) rfl (by kernel_rfl) (by kernel_rfl) (by kernel_rfl) (fun _ _ _ h => h) (Or.inr ⟨by rfl, rfl⟩) (by assumption) ?_
          (try simp only [Act.put, List.setIfInBounds_toArray, List.set_cons_zero, List.set_cons_succ])
          refine wpAnyH_take (i := 12) (oi := ({ dst := some 66, op := Op.binOp BinOp.neq 3 (Operand.tmp 64) (Operand.tmp 65) 3, type := 4, pos := "law.go:118", after := #[{ on := 10, ground := Ground.data }, { on := 11, ground := Ground.data }, { on := 3, ground := Ground.guard }], guard := some (3, true) } : Oper)) (v := undef) rfl (by kernel_rfl) (by kernel_rfl) (by kernel_rfl) (fun _ _ _ h => h) (Or.inr ⟨by rfl, rfl⟩) (by assumption) ?_
          (try simp only [Act.put, List.setIfInBounds_toArray, List.set_cons_zero, List.set_cons_succ])
          refine wpAnyH_take (i := 13) (oi := ({ dst := some 67, op := Op.pick (Operand.tmp 57) (Operand.tmp 66) (Operand.const (Value.bool false)), type := 4, pos := "law.go:118", after := #[{ on := 3, ground := Ground.data }, { on := 12, ground := Ground.data }], guard := none } : Oper)) (v := (.bool false)) rfl (by kernel_rfl) (by kernel_rfl) (by kernel_rfl) (fun _ _ _ h => h) (Or.inl ⟨by rfl, ?_⟩) (by assumption) ?_
          · (intro w hSw; (try dsimp only at hSw); go_simp)
          (try simp only [Act.put, List.setIfInBounds_toArray, List.set_cons_zero, List.set_cons_succ])
          refine wpAnyH_done (by kernel_rfl) ?_ _
          refine NoPanic.normal ?_
          go_wp2
          go_meet
          go_light
          exact ⟨rfl, by repeat (first | (with_reducible exact Below.refl _ _) | (with_reducible refine bl_drew ?_) | (focus ((with_reducible apply bl_call'); with_reducible assumption)))⟩
        · refine wp_region_noPanic ?_
          refine wp_region_held_drew (S := fun w' => w'.cell? ⟨w.heap.size, 0, none⟩ = some (.bool b1) ∧ w'.cell? ⟨w.heap.size, 1, none⟩ = some (.slice A1 n1 c1) ∧ w'.cell? ⟨w.heap.size, 2, none⟩ = some (.slice B1 m1 e1) ∧ w'.cell? ⟨w.heap.size + 1, 0, none⟩ = some (.bool b2) ∧ w'.cell? ⟨w.heap.size + 1, 1, none⟩ = some (.slice A2 n2 c2) ∧ w'.cell? ⟨w.heap.size + 1, 2, none⟩ = some (.slice B2 m2 e2) ∧ w'.cell? ⟨w.heap.size + 1 + 1, 0, none⟩ = some (.bool b3) ∧ w'.cell? ⟨w.heap.size + 1 + 1, 1, none⟩ = some (.slice A3 n3 c3) ∧ w'.cell? ⟨w.heap.size + 1 + 1, 2, none⟩ = some (.slice B3 m3 e3)) (by kernel_rfl) ?_ (fun hHeld => ?_)
          · (focus (refine HK.out _ ?_; (repeat (first | (with_reducible exact Below.refl _ _) | (with_reducible refine bl_drew ?_) | (focus ((with_reducible apply bl_call'); with_reducible assumption)))); done))
          refine wpAnyH_take (i := 0) (oi := ({ dst := some 54, op := Op.load 24 (Operand.tmp 5), type := 24, pos := "law.go:118", after := #[], guard := none } : Oper)) (v := (.agg #[.bool b3, .slice A3 n3 c3, .slice B3 m3 e3])) rfl (by kernel_rfl) (by kernel_rfl) (by kernel_rfl) (fun _ _ _ h => h) (Or.inl ⟨by rfl, ?_⟩) (by assumption) ?_
          · (intro w hSw; (try dsimp only at hSw); go_simp)
          (try simp only [Act.put, List.setIfInBounds_toArray, List.set_cons_zero, List.set_cons_succ])
          refine wpAnyH_ready (rs := [1]) (by kernel_rfl) (by simp) ?_
          refine AllReadyH.cons (o := ({ dst := some 55, op := Op.call { callee := Callee.value (Operand.func 52), args := #[Operand.tmp 54], argTypes := #[24] }, type := 3, pos := "law.go:118", after := #[{ on := 0, ground := Ground.data }], guard := none } : Oper)) rfl (fun K hK => ?_) AllReadyH.nil
          go_simp
          (go_at_call 52; apply Calls.mono (sign_n ?hv ?hL); (case hv => (apply num_at ?h1 ?h2; (case h1 => with_reducible assumption); (case h2 => (repeat (first | (with_reducible exact Below.refl _ _) | (with_reducible refine bl_drew ?_) | (focus ((with_reducible apply bl_call'); with_reducible assumption))))))); (case hL => (exact Nat.le_of_ble_eq_true rfl)); (rw [FS.out]); rintro e vw ⟨rfl, vb⟩)
          go_wp2_with fail
          refine hK.out _ _ ?_ (fun hHeld2 => ?_)
          · (focus (refine HK.out _ ?_; (repeat (first | (with_reducible exact Below.refl _ _) | (with_reducible refine bl_drew ?_) | (focus ((with_reducible apply bl_call'); with_reducible assumption)))); done))
          clear hK K
          (try simp only [Act.put, List.setIfInBounds_toArray, List.set_cons_zero, List.set_cons_succ])
          refine wpAnyH_take (i := 2) (oi := ({ dst := some 56, op := Op.binOp BinOp.gtr 3 (Operand.tmp 55) (Operand.const (Value.int IntKind.i64 0)) 3, type := 4, pos := "law.go:118", after := #[{ on := 1, ground := Ground.data }], guard := none } : Oper)) (v := (.bool false)) rfl (by kernel_rfl) (by kernel_rfl) (by kernel_rfl) (fun _ _ _ h => h) (Or.inl ⟨by rfl, ?_⟩) (by assumption) ?_
          · (intro w hSw; (try dsimp only at hSw); go_simp)
          (try simp only [Act.put, List.setIfInBounds_toArray, List.set_cons_zero, List.set_cons_succ])
          refine wpAnyH_take (i := 3) (oi := ({ dst := some 57, op := Op.move (Operand.tmp 56), type := 4, pos := "law.go:118", after := #[{ on := 2, ground := Ground.data }, { on := 1, ground := Ground.chain }], guard := none } : Oper)) (v := (.bool false)) rfl (by kernel_rfl) (by kernel_rfl) (by kernel_rfl) (fun _ _ _ h => h) (Or.inl ⟨by rfl, ?_⟩) (by assumption) ?_
          · (intro w hSw; (try dsimp only at hSw); go_simp)
          (try simp only [Act.put, List.setIfInBounds_toArray, List.set_cons_zero, List.set_cons_succ])
          refine wpAnyH_take (i := 4) (oi := ({ dst := some 58, op := Op.load 24 (Operand.tmp 3), type := 24, pos := "law.go:118", after := #[{ on := 3, ground := Ground.guard }], guard := some (3, true) } : Oper)) (v := undef) rfl (by kernel_rfl) (by kernel_rfl) (by kernel_rfl) (fun _ _ _ h => h) (Or.inr ⟨by rfl, rfl⟩) (by assumption) ?_
          (try simp only [Act.put, List.setIfInBounds_toArray, List.set_cons_zero, List.set_cons_succ])
          refine wpAnyH_take (i := 5) (oi := ({ dst := some 59, op := Op.load 24 (Operand.tmp 5), type := 24, pos := "law.go:118", after := #[{ on := 3, ground := Ground.guard }], guard := some (3, true) } : Oper)) (v := undef) rfl (by kernel_rfl) (by kernel_rfl) (by kernel_rfl) (fun _ _ _ h => h) (Or.inr ⟨by rfl, rfl⟩) (by assumption) ?_
          (try simp only [Act.put, List.setIfInBounds_toArray, List.set_cons_zero, List.set_cons_succ])
          refine wpAnyH_take (i := 6) (oi := ({ dst := some 60, op := Op.call { callee := Callee.value (Operand.func 21), args := #[Operand.tmp 58, Operand.tmp 59], argTypes := #[24, 24] }, type := 24, pos := "law.go:118", after := #[{ on := 4, ground := Ground.data }, { on := 5, ground := Ground.data }, { on := 3, ground := Ground.chain }, { on := 3, ground := Ground.guard }], guard := some (3, true) } : Oper)) (v := undef) rfl (by kernel_rfl) (by kernel_rfl) (by kernel_rfl) (fun _ _ _ h => h) (Or.inr ⟨by rfl, rfl⟩) (by assumption) ?_
          (try simp only [Act.put, List.setIfInBounds_toArray, List.set_cons_zero, List.set_cons_succ])
          refine wpAnyH_take (i := 7) (oi := ({ dst := some 61, op := Op.load 24 (Operand.tmp 4), type := 24, pos := "law.go:118", after := #[{ on := 3, ground := Ground.guard }], guard := some (3, true) } : Oper)) (v := undef) rfl (by kernel_rfl) (by kernel_rfl) (by kernel_rfl) (fun _ _ _ h => h) (Or.inr ⟨by rfl, rfl⟩) (by assumption) ?_
          (try simp only [Act.put, List.setIfInBounds_toArray, List.set_cons_zero, List.set_cons_succ])
          refine wpAnyH_take (i := 8) (oi := ({ dst := some 62, op := Op.load 24 (Operand.tmp 5), type := 24, pos := "law.go:118", after := #[{ on := 3, ground := Ground.guard }], guard := some (3, true) } : Oper)) (v := undef) rfl (by kernel_rfl) (by kernel_rfl) (by kernel_rfl) (fun _ _ _ h => h) (Or.inr ⟨by rfl, rfl⟩) (by assumption) ?_
          (try simp only [Act.put, List.setIfInBounds_toArray, List.set_cons_zero, List.set_cons_succ])
          refine wpAnyH_take (i := 9) (oi := ({ dst := some 63, op := Op.call { callee := Callee.value (Operand.func 21), args := #[Operand.tmp 61, Operand.tmp 62], argTypes := #[24, 24] }, type := 24, pos := "law.go:118", after := #[{ on := 7, ground := Ground.data }, { on := 8, ground := Ground.data }, { on := 6, ground := Ground.chain }, { on := 3, ground := Ground.guard }], guard := some (3, true) } : Oper)) (v := undef) rfl (by kernel_rfl) (by kernel_rfl) (by kernel_rfl) (fun _ _ _ h => h) (Or.inr ⟨by rfl, rfl⟩) (by assumption) ?_
          (try simp only [Act.put, List.setIfInBounds_toArray, List.set_cons_zero, List.set_cons_succ])
          refine wpAnyH_take (i := 10) (oi := ({ dst := some 64, op := Op.call { callee := Callee.value (Operand.func 47), args := #[Operand.tmp 60, Operand.tmp 63], argTypes := #[24, 24] }, type := 3, pos := "law.go:118", after := #[{ on := 6, ground := Ground.data }, { on := 9, ground := Ground.data }, { on := 9, ground := Ground.chain }, { on := 3, ground := Ground.guard }], guard := some (3, true) } : Oper)) (v := undef) rfl (by kernel_rfl) (by kernel_rfl) (by kernel_rfl) (fun _ _ _ h => h) (Or.inr ⟨by rfl, rfl⟩) (by assumption) ?_
          (try simp only [Act.put, List.setIfInBounds_toArray, List.set_cons_zero, List.set_cons_succ])
          refine wpAnyH_take (i := 11) (oi := ({ dst := some 65, op := Op.move (Operand.tmp 7), type := 3, pos := "law.go:118", after := #[{ on := 3, ground := Ground.guard }], guard := some (3, true) } : Oper)) (v := undef) rfl (by kernel_rfl) (by kernel_rfl) (by kernel_rfl) (fun _ _ _ h => h) (Or.inr ⟨by rfl, rfl⟩) (by assumption) ?_
          (try simp only [Act.put, List.setIfInBounds_toArray, List.set_cons_zero, List.set_cons_succ])
          refine wpAnyH_take (i := 12) (oi := ({ dst := some 66, op := Op.binOp BinOp.neq 3 (Operand.tmp 64) (Operand.tmp 65) 3, type := 4, pos := "law.go:118", after := #[{ on := 10, ground := Ground.data }, { on := 11, ground := Ground.data }, { on := 3, ground := Ground.guard }], guard := some (3, true) } : Oper)) (v := undef) rfl (by kernel_rfl) (by kernel_rfl) (by kernel_rfl) (fun _ _ _ h => h) (Or.inr ⟨by rfl, rfl⟩) (by assumption) ?_
          (try simp only [Act.put, List.setIfInBounds_toArray, List.set_cons_zero, List.set_cons_succ])
          refine wpAnyH_take (i := 13) (oi := ({ dst := some 67, op := Op.pick (Operand.tmp 57) (Operand.tmp 66) (Operand.const (Value.bool false)), type := 4, pos := "law.go:118", after := #[{ on := 3, ground := Ground.data }, { on := 12, ground := Ground.data }], guard := none } : Oper)) (v := (.bool false)) rfl (by kernel_rfl) (by kernel_rfl) (by kernel_rfl) (fun _ _ _ h => h) (Or.inl ⟨by rfl, ?_⟩) (by assumption) ?_
          · (intro w hSw; (try dsimp only at hSw); go_simp)
          (try simp only [Act.put, List.setIfInBounds_toArray, List.set_cons_zero, List.set_cons_succ])
          refine wpAnyH_done (by kernel_rfl) ?_ _
          refine NoPanic.normal ?_
          go_wp2
          go_meet
          go_light
          exact ⟨rfl, by repeat (first | (with_reducible exact Below.refl _ _) | (with_reducible refine bl_drew ?_) | (focus ((with_reducible apply bl_call'); with_reducible assumption)))⟩
      case rest =>
        obtain ⟨rfl, hbx⟩ := hcut
        have K8 := Lib.hid (bl_call K5.out hbx)
        have P1 := Lib.hid (M1.out.below hbx)
        have P2 := Lib.hid (M2.out.below hbx)
        have P3 := Lib.hid (M3.out.below hbx)
        obtain ⟨w8, hx⟩ : ∃ x, x = wc := ⟨_, rfl⟩
        subst hx
        clear HK hbx
        have HK := Lib.hid (show ∀ w', Below w8.heap.size w8 w' → (w'.cell? ⟨w.heap.size, 0, none⟩ = some (.bool b1) ∧ w'.cell? ⟨w.heap.size, 1, none⟩ = some (.slice A1 n1 c1) ∧ w'.cell? ⟨w.heap.size, 2, none⟩ = some (.slice B1 m1 e1) ∧ w'.cell? ⟨w.heap.size + 1, 0, none⟩ = some (.bool b2) ∧ w'.cell? ⟨w.heap.size + 1, 1, none⟩ = some (.slice A2 n2 c2) ∧ w'.cell? ⟨w.heap.size + 1, 2, none⟩ = some (.slice B2 m2 e2) ∧ w'.cell? ⟨w.heap.size + 1 + 1, 0, none⟩ = some (.bool b3) ∧ w'.cell? ⟨w.heap.size + 1 + 1, 1, none⟩ = some (.slice A3 n3 c3) ∧ w'.cell? ⟨w.heap.size + 1 + 1, 2, none⟩ = some (.slice B3 m3 e3)) from fun w' hb => by
          obtain ⟨y0, y1, y2, y3, y4, y5, y6, y7, y8, y9, y10, y11⟩ := HC.out w' (bl_call K8.out hb)
          exact ⟨y0, y1, y2, y3, y4, y5, y6, y7, y8⟩)
        go_upto_region 10 with (fail)
        go_region_held3 (fun w' => w'.cell? ⟨w.heap.size, 0, none⟩ = some (.bool b1) ∧ w'.cell? ⟨w.heap.size, 1, none⟩ = some (.slice A1 n1 c1) ∧ w'.cell? ⟨w.heap.size, 2, none⟩ = some (.slice B1 m1 e1) ∧ w'.cell? ⟨w.heap.size + 1, 0, none⟩ = some (.bool b2) ∧ w'.cell? ⟨w.heap.size + 1, 1, none⟩ = some (.slice A2 n2 c2) ∧ w'.cell? ⟨w.heap.size + 1, 2, none⟩ = some (.slice B2 m2 e2) ∧ w'.cell? ⟨w.heap.size + 1 + 1, 0, none⟩ = some (.bool b3) ∧ w'.cell? ⟨w.heap.size + 1 + 1, 1, none⟩ = some (.slice A3 n3 c3) ∧ w'.cell? ⟨w.heap.size + 1 + 1, 2, none⟩ = some (.slice B3 m3 e3))
          (first
            | (focus (refine HK.out _ ?_; (repeat (first | (with_reducible exact Below.refl _ _) | (with_reducible refine bl_drew ?_) | (focus ((with_reducible apply bl_call'); with_reducible assumption)))); done)))
          (first
            | (go_at_call 43; apply Calls.mono (add_n ?hv ?hu ?hL ?hM); (case hv => (apply num_at ?h1 ?h2; (case h1 => with_reducible assumption); (case h2 => (repeat (first | (with_reducible exact Below.refl _ _) | (with_reducible refine bl_drew ?_) | (focus ((with_reducible apply bl_call'); with_reducible assumption))))))); (case hu => (apply num_at ?h1 ?h2; (case h1 => with_reducible assumption); (case h2 => (repeat (first | (with_reducible exact Below.refl _ _) | (with_reducible refine bl_drew ?_) | (focus ((with_reducible apply bl_call'); with_reducible assumption))))))); (case hL => (exact Nat.le_of_ble_eq_true rfl)); (case hM => (exact Nat.le_of_ble_eq_true rfl)); rintro e vw ⟨vz, rfl, vh, vb⟩; have VH := Lib.hid vh; clear vh)
            | (go_at_call 47; apply Calls.mono (cmp_n ?hv ?hu ?hL ?hM); (case hv => (apply num_at ?h1 ?h2; (case h1 => with_reducible assumption); (case h2 => (repeat (first | (with_reducible exact Below.refl _ _) | (with_reducible refine bl_drew ?_) | (focus ((with_reducible apply bl_call'); with_reducible assumption))))))); (case hu => (apply num_at ?h1 ?h2; (case h1 => with_reducible assumption); (case h2 => (repeat (first | (with_reducible exact Below.refl _ _) | (with_reducible refine bl_drew ?_) | (focus ((with_reducible apply bl_call'); with_reducible assumption))))))); (case hL => (exact Nat.le_of_ble_eq_true rfl)); (case hM => (exact Nat.le_of_ble_eq_true rfl)); (rw [FA.out]); rintro e vw ⟨rfl, vb⟩)
            | (go_at_call 45; apply Calls.mono (sub_n ?hv ?hu ?hL ?hM); (case hv => (apply num_at ?h1 ?h2; (case h1 => with_reducible assumption); (case h2 => (repeat (first | (with_reducible exact Below.refl _ _) | (with_reducible refine bl_drew ?_) | (focus ((with_reducible apply bl_call'); with_reducible assumption))))))); (case hu => (apply num_at ?h1 ?h2; (case h1 => with_reducible assumption); (case h2 => (repeat (first | (with_reducible exact Below.refl _ _) | (with_reducible refine bl_drew ?_) | (focus ((with_reducible apply bl_call'); with_reducible assumption))))))); (case hL => (exact Nat.le_of_ble_eq_true rfl)); (case hM => (exact Nat.le_of_ble_eq_true rfl)); rintro e vw ⟨vz, rfl, vh, vb⟩; have VH := Lib.hid vh; clear vh)
            | (go_at_call 52; apply Calls.mono (sign_n ?hv ?hL); (case hv => (apply num_at ?h1 ?h2; (case h1 => with_reducible assumption); (case h2 => (repeat (first | (with_reducible exact Below.refl _ _) | (with_reducible refine bl_drew ?_) | (focus ((with_reducible apply bl_call'); with_reducible assumption))))))); (case hL => (exact Nat.le_of_ble_eq_true rfl)); (rw [F12.out]); rintro e vw ⟨rfl, vb⟩)
            | (go_at_call 23; refine (awake_any _).mono ?_; rintro e vw ⟨rfl, vb⟩))
        all_goals go_wp2_with fail
        all_goals go_ret
        all_goals exact ⟨rfl, bl_call (bl_call HW0.out K8.out) (by repeat (first | (with_reducible exact Below.refl _ _) | (with_reducible refine bl_drew ?_) | (focus ((with_reducible apply bl_call'); with_reducible assumption))))⟩
      
end Go.Proofs.Ytikpdkgamcecjaa
