/- The walk of the statement RationalField. -/
import Derived.Test.YtikpdkgamcecjaaC2
import Derived.Test.YtikpdkgamcecjaaT5
import Derived.Deep.RegionHeld3
namespace Go.Proofs.Ytikpdkgamcecjaa
open Go.RowKit
set_option linter.unusedSimpArgs false
set_option linter.unusedVariables false

set_option maxRecDepth 100000 in
set_option maxHeartbeats 8000000 in
theorem RationalField_walk (v1 : Value) (r1 : Raw) (v2 : Value) (r2 : Raw) (v3 : Value) (r3 : Raw) (w : World) (h1 : RdU w v1 r1) (h2 : RdU w v2 r2) (h3 : RdU w v3 r3) :
    Calls Try.prog 11 #[v1, v2, v3] w fun e w' => e = .returned (.bool true) ∧ Below w.heap.size w w' := by
  have K1 := Lib.hid (fun (W2 : World) (hb : Below w.heap.size w W2) => keepRat_any v1 r1 W2 (h1.1.below hb))
  have S1 := Lib.hid (fun (W2 : World) (hb : Below w.heap.size w W2) (h : smallB r1 = true) => (Num.of h1.1 (small_good h h1.2.1 h1.2.2)).below hb)
  obtain ⟨b1, A1, n1, c1, B1, m1, e1, rfl⟩ := rdR_shape h1.1
  obtain ⟨s1, hs1⟩ : ∃ s, s = smallB r1 := ⟨_, rfl⟩
  obtain ⟨X1, hX1⟩ : ∃ X, X = qv r1 := ⟨_, rfl⟩
  rw [← hs1] at K1 S1
  rw [← hX1] at S1
  clear hs1 hX1 h1
  have K2 := Lib.hid (fun (W2 : World) (hb : Below w.heap.size w W2) => keepRat_any v2 r2 W2 (h2.1.below hb))
  have S2 := Lib.hid (fun (W2 : World) (hb : Below w.heap.size w W2) (h : smallB r2 = true) => (Num.of h2.1 (small_good h h2.2.1 h2.2.2)).below hb)
  obtain ⟨b2, A2, n2, c2, B2, m2, e2, rfl⟩ := rdR_shape h2.1
  obtain ⟨s2, hs2⟩ : ∃ s, s = smallB r2 := ⟨_, rfl⟩
  obtain ⟨X2, hX2⟩ : ∃ X, X = qv r2 := ⟨_, rfl⟩
  rw [← hs2] at K2 S2
  rw [← hX2] at S2
  clear hs2 hX2 h2
  have K3 := Lib.hid (fun (W2 : World) (hb : Below w.heap.size w W2) => keepRat_any v3 r3 W2 (h3.1.below hb))
  have S3 := Lib.hid (fun (W2 : World) (hb : Below w.heap.size w W2) (h : smallB r3 = true) => (Num.of h3.1 (small_good h h3.2.1 h3.2.2)).below hb)
  obtain ⟨b3, A3, n3, c3, B3, m3, e3, rfl⟩ := rdR_shape h3.1
  obtain ⟨s3, hs3⟩ : ∃ s, s = smallB r3 := ⟨_, rfl⟩
  obtain ⟨X3, hX3⟩ : ∃ X, X = qv r3 := ⟨_, rfl⟩
  rw [← hs3] at K3 S3
  rw [← hX3] at S3
  clear hs3 hX3 h3
  go_enter Try.func11, Try.ntmps11
  go_wp2_with fail
  obtain ⟨W0, hW0⟩ : ∃ W, W = (((w.alloc (.cells #[.bool b1, .slice A1 n1 c1, .slice B1 m1 e1] 24)).alloc (.cells #[.bool b2, .slice A2 n2 c2, .slice B2 m2 e2] 24)).alloc (.cells #[.bool b3, .slice A3 n3 c3, .slice B3 m3 e3] 24)) := ⟨_, rfl⟩
  have HW0 := Lib.hid (show Below w.heap.size w W0 by rw [hW0]; exact bl_alloc (bl_alloc (bl_alloc (Below.refl _ _) _) _) _)
  have BB1 := Lib.hid (show W0.heap[w.heap.size]? = some (.cells #[.bool b1, .slice A1 n1 c1, .slice B1 m1 e1] 24 (0, 0)) by rw [hW0]; exact blk_alloc (blk_alloc (blk_new' (by simp) _) _) _)
  have BB2 := Lib.hid (show W0.heap[w.heap.size + 1]? = some (.cells #[.bool b2, .slice A2 n2 c2, .slice B2 m2 e2] 24 (0, 0)) by rw [hW0]; exact blk_alloc (blk_new' (by simp) _) _)
  have BB3 := Lib.hid (show W0.heap[w.heap.size + 1 + 1]? = some (.cells #[.bool b3, .slice A3 n3 c3, .slice B3 m3 e3] 24 (0, 0)) by rw [hW0]; exact blk_new' (by simp) _)
  rw [← hW0]
  clear hW0
  have HC := Lib.hid (show ∀ W : World, Below W0.heap.size W0 W → (W.cell? ⟨w.heap.size, 0, none⟩ = some (.bool b1) ∧ W.cell? ⟨w.heap.size, 1, none⟩ = some (.slice A1 n1 c1) ∧ W.cell? ⟨w.heap.size, 2, none⟩ = some (.slice B1 m1 e1) ∧ W.cell? ⟨w.heap.size + 1, 0, none⟩ = some (.bool b2) ∧ W.cell? ⟨w.heap.size + 1, 1, none⟩ = some (.slice A2 n2 c2) ∧ W.cell? ⟨w.heap.size + 1, 2, none⟩ = some (.slice B2 m2 e2) ∧ W.cell? ⟨w.heap.size + 1 + 1, 0, none⟩ = some (.bool b3) ∧ W.cell? ⟨w.heap.size + 1 + 1, 1, none⟩ = some (.slice A3 n3 c3) ∧ W.cell? ⟨w.heap.size + 1 + 1, 2, none⟩ = some (.slice B3 m3 e3) ∧ w.heap.size < W.heap.size ∧ w.heap.size + 1 < W.heap.size ∧ w.heap.size + 1 + 1 < W.heap.size) from fun W hb => ⟨blk_cell (blk_below BB1.out hb) 0, blk_cell (blk_below BB1.out hb) 1, blk_cell (blk_below BB1.out hb) 2, blk_cell (blk_below BB2.out hb) 0, blk_cell (blk_below BB2.out hb) 1, blk_cell (blk_below BB2.out hb) 2, blk_cell (blk_below BB3.out hb) 0, blk_cell (blk_below BB3.out hb) 1, blk_cell (blk_below BB3.out hb) 2, blk_lt (blk_below BB1.out hb), blk_lt (blk_below BB2.out hb), blk_lt (blk_below BB3.out hb)⟩)
  have T0 := Lib.hid (Below.refl W0.heap.size W0)
  refine (K1.out _ (bl_call HW0.out T0.out)).mono ?_
  cases s1
  · rintro e w1 ⟨rfl, hb⟩
    have T1 := Lib.hid (bl_call T0.out hb)
    obtain ⟨y0, y1, y2, y3, y4, y5, y6, y7, y8, y9, y10, y11⟩ := HC.out _ T1.out
    go_wp2_with fail
    go_ret
    exact ⟨rfl, bl_call HW0.out T1.out⟩
  rintro e w1 ⟨rfl, hb⟩
  have N1' := S1.out W0 HW0.out rfl
  have T1 := Lib.hid (bl_call T0.out hb)
  obtain ⟨y0, y1, y2, y3, y4, y5, y6, y7, y8, y9, y10, y11⟩ := HC.out _ T1.out
  clear hb
  go_wp2_with fail
  clear y0 y1 y2 y3 y4 y5 y6 y7 y8 y9 y10 y11
  refine (K2.out _ (bl_call HW0.out T1.out)).mono ?_
  cases s2
  · rintro e w2 ⟨rfl, hb⟩
    have T2 := Lib.hid (bl_call T1.out hb)
    obtain ⟨y0, y1, y2, y3, y4, y5, y6, y7, y8, y9, y10, y11⟩ := HC.out _ T2.out
    go_wp2_with fail
    go_ret
    exact ⟨rfl, bl_call HW0.out T2.out⟩
  rintro e w2 ⟨rfl, hb⟩
  have N2' := S2.out W0 HW0.out rfl
  have T2 := Lib.hid (bl_call T1.out hb)
  obtain ⟨y0, y1, y2, y3, y4, y5, y6, y7, y8, y9, y10, y11⟩ := HC.out _ T2.out
  clear hb
  go_wp2_with fail
  clear y0 y1 y2 y3 y4 y5 y6 y7 y8 y9 y10 y11
  refine (K3.out _ (bl_call HW0.out T2.out)).mono ?_
  cases s3
  · rintro e w3 ⟨rfl, hb⟩
    have T3 := Lib.hid (bl_call T2.out hb)
    obtain ⟨y0, y1, y2, y3, y4, y5, y6, y7, y8, y9, y10, y11⟩ := HC.out _ T3.out
    go_wp2_with fail
    go_ret
    exact ⟨rfl, bl_call HW0.out T3.out⟩
  rintro e w3 ⟨rfl, hb⟩
  have N3' := S3.out W0 HW0.out rfl
  have T3 := Lib.hid (bl_call T2.out hb)
  obtain ⟨y0, y1, y2, y3, y4, y5, y6, y7, y8, y9, y10, y11⟩ := HC.out _ T3.out
  clear hb
  have N1 := Lib.hid (N1'.below T3.out)
  clear N1' K1 S1
  have N2 := Lib.hid (N2'.below T3.out)
  clear N2' K2 S2
  have N3 := Lib.hid (N3'.below T3.out)
  clear N3' K3 S3
  have EA := Lib.hid (Rat.add_assoc X1 X2 X3)
  have EM := Lib.hid (Rat.mul_assoc X1 X2 X3)
  have EC := Lib.hid (Rat.add_comm X1 X2)
  have ED := Lib.hid (Rat.mul_comm X1 X2)
  have EE := Lib.hid (Rat.mul_add X1 X2 X3)
  have EF := Lib.hid (show X1 - X1 = ((0 : Int) : Rat) by rw [Rat.sub_self]; rfl)
  have EG := Lib.hid (show X1 + ((0 : Int) : Rat) = X1 from Rat.add_zero X1)
  have EH := Lib.hid (show X1 * ((1 : Int) : Rat) = X1 from Rat.mul_one X1)
  go_wp2_with fail
  refine (fromInt_n (by omega) (by omega)).mono ?_
  rintro e w4 ⟨z4, rfl, hz4, hb4⟩
  have N4 := Lib.hid hz4
  obtain ⟨b4, A4, n4, c4, B4, m4, e4, rfl⟩ := hz4.open
  have K4 := Lib.hid (bl_call T3.out hb4)
  have J4 := Lib.hid hb4
  clear y0 y1 y2 y3 y4 y5 y6 y7 y8 y9 y10 y11 hb4 hz4
  obtain ⟨y0, y1, y2, y3, y4, y5, y6, y7, y8, y9, y10, y11⟩ := HC.out w4 K4.out
  go_wp2_with fail
  refine (fromInt_n (by omega) (by omega)).mono ?_
  rintro e w5 ⟨z5, rfl, hz5, hb5⟩
  have N5 := Lib.hid hz5
  have N4' := Lib.hid (N4.out.below hb5)
  obtain ⟨b5, A5, n5, c5, B5, m5, e5, rfl⟩ := hz5.open
  have K5 := Lib.hid (bl_call K4.out hb5)
  have J5 := Lib.hid (bl_call J4.out hb5)
  clear y0 y1 y2 y3 y4 y5 y6 y7 y8 y9 y10 y11 hb5 hz5 N4
  obtain ⟨y0, y1, y2, y3, y4, y5, y6, y7, y8, y9, y10, y11⟩ := HC.out w5 K5.out
  go_upto_region 4 with (fail)
  obtain ⟨W, hW⟩ : ∃ W, W = (w5.alloc (.cells #[.bool b4, .slice A4 n4 c4, .slice B4 m4 e4] 24)).alloc (.cells #[.bool b5, .slice A5 n5 c5, .slice B5 m5 e5] 24) := ⟨_, rfl⟩
  have JW : Below w5.heap.size w5 W := by rw [hW]; exact bl_alloc (bl_alloc (Below.refl _ _) _) _
  have K6 := Lib.hid (bl_call K5.out JW)
  have G4 := Lib.hid (show W.heap[w5.heap.size]? = some (.cells #[.bool b4, .slice A4 n4 c4, .slice B4 m4 e4] 24 (0, 0)) by rw [hW]; exact blk_alloc (blk_new _ _) _)
  have G5 := Lib.hid (show W.heap[w5.heap.size + 1]? = some (.cells #[.bool b5, .slice A5 n5 c5, .slice B5 m5 e5] 24 (0, 0)) by rw [hW]; exact blk_new' (by simp) _)
  have M4 := Lib.hid (N4'.out.below JW)
  have M5 := Lib.hid (N5.out.below JW)
  have M1 := Lib.hid (N1.out.below (bl_call J5.out JW))
  have M2 := Lib.hid (N2.out.below (bl_call J5.out JW))
  have M3 := Lib.hid (N3.out.below (bl_call J5.out JW))
  rw [← hW]
  clear hW JW N1 N2 N3 N4' N5 J4 J5 K4 K5 y0 y1 y2 y3 y4 y5 y6 y7 y8 y9 y10 y11
  have HKW := Lib.hid (show ∀ w', Below W.heap.size W w' → (w'.cell? ⟨w.heap.size, 0, none⟩ = some (.bool b1) ∧ w'.cell? ⟨w.heap.size, 1, none⟩ = some (.slice A1 n1 c1) ∧ w'.cell? ⟨w.heap.size, 2, none⟩ = some (.slice B1 m1 e1) ∧ w'.cell? ⟨w.heap.size + 1, 0, none⟩ = some (.bool b2) ∧ w'.cell? ⟨w.heap.size + 1, 1, none⟩ = some (.slice A2 n2 c2) ∧ w'.cell? ⟨w.heap.size + 1, 2, none⟩ = some (.slice B2 m2 e2) ∧ w'.cell? ⟨w.heap.size + 1 + 1, 0, none⟩ = some (.bool b3) ∧ w'.cell? ⟨w.heap.size + 1 + 1, 1, none⟩ = some (.slice A3 n3 c3) ∧ w'.cell? ⟨w.heap.size + 1 + 1, 2, none⟩ = some (.slice B3 m3 e3) ∧ w'.cell? ⟨w5.heap.size, 0, none⟩ = some (.bool b4) ∧ w'.cell? ⟨w5.heap.size, 1, none⟩ = some (.slice A4 n4 c4) ∧ w'.cell? ⟨w5.heap.size, 2, none⟩ = some (.slice B4 m4 e4) ∧ w'.cell? ⟨w5.heap.size + 1, 0, none⟩ = some (.bool b5) ∧ w'.cell? ⟨w5.heap.size + 1, 1, none⟩ = some (.slice A5 n5 c5) ∧ w'.cell? ⟨w5.heap.size + 1, 2, none⟩ = some (.slice B5 m5 e5)) from fun w' hb => by
    obtain ⟨y0, y1, y2, y3, y4, y5, y6, y7, y8, y9, y10, y11⟩ := HC.out w' (bl_call K6.out hb)
    exact ⟨y0, y1, y2, y3, y4, y5, y6, y7, y8, blk_cell (blk_below G4.out hb) 0, blk_cell (blk_below G4.out hb) 1, blk_cell (blk_below G4.out hb) 2, blk_cell (blk_below G5.out hb) 0, blk_cell (blk_below G5.out hb) 1, blk_cell (blk_below G5.out hb) 2⟩)
  obtain ⟨y0, y1, y2, y3, y4, y5, y6, y7, y8, y9, y10, y11, y12, y13, y14⟩ := HKW.out W (Below.refl _ _)
  go_wp2_with fail
  refine (sign_n M2.out (Nat.le_of_ble_eq_true rfl)).mono ?_
  by_cases hY : X2 = 0
  · have hs : sgnZ X2 = 0 := sgnZ_zero.2 hY
    rw [hs]
    rintro e w6 ⟨rfl, hb6⟩
    have K7 := Lib.hid (bl_call K6.out hb6)
    have P1 := Lib.hid (M1.out.below hb6)
    have P2 := Lib.hid (M2.out.below hb6)
    have P3 := Lib.hid (M3.out.below hb6)
    have P4 := Lib.hid (M4.out.below hb6)
    have P5 := Lib.hid (M5.out.below hb6)
    have G4' := Lib.hid (blk_below G4.out hb6)
    have G5' := Lib.hid (blk_below G5.out hb6)
    clear hs hY hb6 y0 y1 y2 y3 y4 y5 y6 y7 y8 y9 y10 y11 y12 y13 y14 M1 M2 M3 M4 M5
    have HK := Lib.hid (show ∀ w', Below w6.heap.size w6 w' → (w'.cell? ⟨w.heap.size, 0, none⟩ = some (.bool b1) ∧ w'.cell? ⟨w.heap.size, 1, none⟩ = some (.slice A1 n1 c1) ∧ w'.cell? ⟨w.heap.size, 2, none⟩ = some (.slice B1 m1 e1) ∧ w'.cell? ⟨w.heap.size + 1, 0, none⟩ = some (.bool b2) ∧ w'.cell? ⟨w.heap.size + 1, 1, none⟩ = some (.slice A2 n2 c2) ∧ w'.cell? ⟨w.heap.size + 1, 2, none⟩ = some (.slice B2 m2 e2) ∧ w'.cell? ⟨w.heap.size + 1 + 1, 0, none⟩ = some (.bool b3) ∧ w'.cell? ⟨w.heap.size + 1 + 1, 1, none⟩ = some (.slice A3 n3 c3) ∧ w'.cell? ⟨w.heap.size + 1 + 1, 2, none⟩ = some (.slice B3 m3 e3) ∧ w'.cell? ⟨w5.heap.size, 0, none⟩ = some (.bool b4) ∧ w'.cell? ⟨w5.heap.size, 1, none⟩ = some (.slice A4 n4 c4) ∧ w'.cell? ⟨w5.heap.size, 2, none⟩ = some (.slice B4 m4 e4) ∧ w'.cell? ⟨w5.heap.size + 1, 0, none⟩ = some (.bool b5) ∧ w'.cell? ⟨w5.heap.size + 1, 1, none⟩ = some (.slice A5 n5 c5) ∧ w'.cell? ⟨w5.heap.size + 1, 2, none⟩ = some (.slice B5 m5 e5)) from fun w' hb => by
      obtain ⟨y0, y1, y2, y3, y4, y5, y6, y7, y8, y9, y10, y11⟩ := HC.out w' (bl_call K7.out hb)
      exact ⟨y0, y1, y2, y3, y4, y5, y6, y7, y8, blk_cell (blk_below G4'.out hb) 0, blk_cell (blk_below G4'.out hb) 1, blk_cell (blk_below G4'.out hb) 2, blk_cell (blk_below G5'.out hb) 0, blk_cell (blk_below G5'.out hb) 1, blk_cell (blk_below G5'.out hb) 2⟩)
    go_upto_region 8 with (fail)
    refine field_region (X1 := X1) (X2 := X2) (X3 := X3) (g1 := w.heap.size) (g2 := w.heap.size + 1) (g3 := w.heap.size + 1 + 1) (g4 := w5.heap.size) (g5 := w5.heap.size + 1) rfl rfl rfl rfl rfl rfl (fun w' hb => by have h := HK.out w' hb; exact ⟨h.1, h.2.1, h.2.2.1⟩) (fun w' hb => by have h := HK.out w' hb; exact ⟨h.2.2.2.1, h.2.2.2.2.1, h.2.2.2.2.2.1⟩) (fun w' hb => by have h := HK.out w' hb; exact ⟨h.2.2.2.2.2.2.1, h.2.2.2.2.2.2.2.1, h.2.2.2.2.2.2.2.2.1⟩) (fun w' hb => by have h := HK.out w' hb; exact ⟨h.2.2.2.2.2.2.2.2.2.1, h.2.2.2.2.2.2.2.2.2.2.1, h.2.2.2.2.2.2.2.2.2.2.2.1⟩) (fun w' hb => by have h := HK.out w' hb; exact ⟨h.2.2.2.2.2.2.2.2.2.2.2.2.1, h.2.2.2.2.2.2.2.2.2.2.2.2.2.1, h.2.2.2.2.2.2.2.2.2.2.2.2.2.2⟩) P1.out P2.out P3.out P4.out P5.out ?_
    intro a' w' hb h6 hdf
    obtain ⟨tm, df⟩ := a'
    have hdf' : df = [] := hdf
    subst hdf'
    have h6' : tm[6]?.getD undef = .bool true := by rw [← Array.getD_eq_getD_getElem?]; exact h6
    have HBE := Lib.hid (bl_call (bl_call HW0.out K7.out) hb)
    clear h6 hdf hb
    go_wp2_with fail

    refine bodyPost_ret (v := .bool true) (by simp [results, Try.results11, go_sem, h6']) rfl ⟨rfl, HBE.out⟩
  · have EQ := Lib.hid (show X1 / X2 * X2 = X1 from Rat.div_mul_cancel hY)
    obtain ⟨s2, hs2⟩ : ∃ s, s = sgnZ X2 := ⟨_, rfl⟩
    have t1 : (s2 != 0) = true := by
      have : s2 ≠ 0 := by rw [hs2]; exact fun e => hY (sgnZ_zero.1 e)
      simpa using this
    have hdec : decide (X2 ≠ 0) = true := by simpa using hY
    have HDEC := Lib.hid hdec
    rw [← hs2]
    rintro e w6 ⟨rfl, hb6⟩
    have K7 := Lib.hid (bl_call K6.out hb6)
    have J7 := Lib.hid hb6
    clear hs2 hY hb6 y0 y1 y2 y3 y4 y5 y6 y7 y8 y9 y10 y11 y12 y13 y14 hdec
    obtain ⟨y0, y1, y2, y3, y4, y5, y6, y7, y8, y9, y10, y11, y12, y13, y14⟩ := HKW.out w6 J7.out
    go_wp2_with fail
    refine (div_n (M1.out.below J7.out) (M2.out.below J7.out) (Nat.le_of_ble_eq_true rfl) (Nat.le_of_ble_eq_true rfl)).mono ?_
    rw [HDEC.out]
    rintro e w7 ⟨z6, rfl, hz6, hb7⟩
    have N6 := Lib.hid hz6
    obtain ⟨b6, A6, n6, c6, B6, m6, e6, rfl⟩ := hz6.open
    have J8 := Lib.hid (bl_call J7.out hb7)
    clear hz6 hb7 y0 y1 y2 y3 y4 y5 y6 y7 y8 y9 y10 y11 y12 y13 y14 t1
    obtain ⟨y0, y1, y2, y3, y4, y5, y6, y7, y8, y9, y10, y11, y12, y13, y14⟩ := HKW.out w7 J8.out
    go_upto_region 6 with (fail)
    obtain ⟨U, hU⟩ : ∃ U, U = w7.alloc (.cells #[.bool b6, .slice A6 n6 c6, .slice B6 m6 e6] 24) := ⟨_, rfl⟩
    have JU : Below w7.heap.size w7 U := by rw [hU]; exact bl_alloc (Below.refl _ _) _
    have K9 := Lib.hid (bl_call K6.out (bl_call J8.out JU))
    have P1 := Lib.hid (M1.out.below (bl_call J8.out JU))
    have P2 := Lib.hid (M2.out.below (bl_call J8.out JU))
    have P3 := Lib.hid (M3.out.below (bl_call J8.out JU))
    have P4 := Lib.hid (M4.out.below (bl_call J8.out JU))
    have P5 := Lib.hid (M5.out.below (bl_call J8.out JU))
    have P6 := Lib.hid (N6.out.below JU)
    have G4' := Lib.hid (blk_below G4.out (bl_call J8.out JU))
    have G5' := Lib.hid (blk_below G5.out (bl_call J8.out JU))
    have G6 := Lib.hid (show U.heap[w7.heap.size]? = some (.cells #[.bool b6, .slice A6 n6 c6, .slice B6 m6 e6] 24 (0, 0)) by rw [hU]; exact blk_new _ _)
    rw [← hU]
    clear hU JU y0 y1 y2 y3 y4 y5 y6 y7 y8 y9 y10 y11 y12 y13 y14 M1 M2 M3 M4 M5 N6
    have HK := Lib.hid (show ∀ w', Below U.heap.size U w' → (w'.cell? ⟨w.heap.size, 0, none⟩ = some (.bool b1) ∧ w'.cell? ⟨w.heap.size, 1, none⟩ = some (.slice A1 n1 c1) ∧ w'.cell? ⟨w.heap.size, 2, none⟩ = some (.slice B1 m1 e1) ∧ w'.cell? ⟨w.heap.size + 1, 0, none⟩ = some (.bool b2) ∧ w'.cell? ⟨w.heap.size + 1, 1, none⟩ = some (.slice A2 n2 c2) ∧ w'.cell? ⟨w.heap.size + 1, 2, none⟩ = some (.slice B2 m2 e2) ∧ w'.cell? ⟨w.heap.size + 1 + 1, 0, none⟩ = some (.bool b3) ∧ w'.cell? ⟨w.heap.size + 1 + 1, 1, none⟩ = some (.slice A3 n3 c3) ∧ w'.cell? ⟨w.heap.size + 1 + 1, 2, none⟩ = some (.slice B3 m3 e3) ∧ w'.cell? ⟨w5.heap.size, 0, none⟩ = some (.bool b4) ∧ w'.cell? ⟨w5.heap.size, 1, none⟩ = some (.slice A4 n4 c4) ∧ w'.cell? ⟨w5.heap.size, 2, none⟩ = some (.slice B4 m4 e4) ∧ w'.cell? ⟨w5.heap.size + 1, 0, none⟩ = some (.bool b5) ∧ w'.cell? ⟨w5.heap.size + 1, 1, none⟩ = some (.slice A5 n5 c5) ∧ w'.cell? ⟨w5.heap.size + 1, 2, none⟩ = some (.slice B5 m5 e5) ∧ w'.cell? ⟨w7.heap.size, 0, none⟩ = some (.bool b6) ∧ w'.cell? ⟨w7.heap.size, 1, none⟩ = some (.slice A6 n6 c6) ∧ w'.cell? ⟨w7.heap.size, 2, none⟩ = some (.slice B6 m6 e6)) from fun w' hb => by
      obtain ⟨y0, y1, y2, y3, y4, y5, y6, y7, y8, y9, y10, y11⟩ := HC.out w' (bl_call K9.out hb)
      exact ⟨y0, y1, y2, y3, y4, y5, y6, y7, y8, blk_cell (blk_below G4'.out hb) 0, blk_cell (blk_below G4'.out hb) 1, blk_cell (blk_below G4'.out hb) 2, blk_cell (blk_below G5'.out hb) 0, blk_cell (blk_below G5'.out hb) 1, blk_cell (blk_below G5'.out hb) 2, blk_cell (blk_below G6.out hb) 0, blk_cell (blk_below G6.out hb) 1, blk_cell (blk_below G6.out hb) 2⟩)
    go_region_held3 (fun w' => w'.cell? ⟨w.heap.size, 0, none⟩ = some (.bool b1) ∧ w'.cell? ⟨w.heap.size, 1, none⟩ = some (.slice A1 n1 c1) ∧ w'.cell? ⟨w.heap.size, 2, none⟩ = some (.slice B1 m1 e1) ∧ w'.cell? ⟨w.heap.size + 1, 0, none⟩ = some (.bool b2) ∧ w'.cell? ⟨w.heap.size + 1, 1, none⟩ = some (.slice A2 n2 c2) ∧ w'.cell? ⟨w.heap.size + 1, 2, none⟩ = some (.slice B2 m2 e2) ∧ w'.cell? ⟨w.heap.size + 1 + 1, 0, none⟩ = some (.bool b3) ∧ w'.cell? ⟨w.heap.size + 1 + 1, 1, none⟩ = some (.slice A3 n3 c3) ∧ w'.cell? ⟨w.heap.size + 1 + 1, 2, none⟩ = some (.slice B3 m3 e3) ∧ w'.cell? ⟨w5.heap.size, 0, none⟩ = some (.bool b4) ∧ w'.cell? ⟨w5.heap.size, 1, none⟩ = some (.slice A4 n4 c4) ∧ w'.cell? ⟨w5.heap.size, 2, none⟩ = some (.slice B4 m4 e4) ∧ w'.cell? ⟨w5.heap.size + 1, 0, none⟩ = some (.bool b5) ∧ w'.cell? ⟨w5.heap.size + 1, 1, none⟩ = some (.slice A5 n5 c5) ∧ w'.cell? ⟨w5.heap.size + 1, 2, none⟩ = some (.slice B5 m5 e5) ∧ w'.cell? ⟨w7.heap.size, 0, none⟩ = some (.bool b6) ∧ w'.cell? ⟨w7.heap.size, 1, none⟩ = some (.slice A6 n6 c6) ∧ w'.cell? ⟨w7.heap.size, 2, none⟩ = some (.slice B6 m6 e6))
      (first
        | (focus (refine HK.out _ ?_; (repeat (first | (with_reducible exact Below.refl _ _) | (with_reducible refine bl_drew ?_) | (focus ((with_reducible apply bl_call'); with_reducible assumption)))); done)))
      (first
        | (go_at_call 21; apply Calls.mono (mul_n ?hv ?hu ?hL ?hM); (case hv => (apply num_at ?h1 ?h2; (case h1 => with_reducible assumption); (case h2 => (repeat (first | (with_reducible exact Below.refl _ _) | (with_reducible refine bl_drew ?_) | (focus ((with_reducible apply bl_call'); with_reducible assumption))))))); (case hu => (apply num_at ?h1 ?h2; (case h1 => with_reducible assumption); (case h2 => (repeat (first | (with_reducible exact Below.refl _ _) | (with_reducible refine bl_drew ?_) | (focus ((with_reducible apply bl_call'); with_reducible assumption))))))); (case hL => (exact Nat.le_of_ble_eq_true rfl)); (case hM => (exact Nat.le_of_ble_eq_true rfl)); rintro e vw ⟨vz, rfl, vh, vb⟩; have VH := Lib.hid vh; clear vh)
        | (go_at_call 48; apply Calls.mono (canon_n ?hv ?hL); (case hv => (apply num_at ?h1 ?h2; (case h1 => with_reducible assumption); (case h2 => (repeat (first | (with_reducible exact Below.refl _ _) | (with_reducible refine bl_drew ?_) | (focus ((with_reducible apply bl_call'); with_reducible assumption))))))); (case hL => (exact Nat.le_of_ble_eq_true rfl)); rintro e vw ⟨vz, rfl, vh, vb⟩; have VH := Lib.hid vh; clear vh)
        | (go_at_call 20; apply Calls.mono (same_n ?hv ?hu ?e); (case hv => (apply num_at ?h1 ?h2; (case h1 => with_reducible assumption); (case h2 => (repeat (first | (with_reducible exact Below.refl _ _) | (with_reducible refine bl_drew ?_) | (focus ((with_reducible apply bl_call'); with_reducible assumption))))))); (case hu => (apply num_at ?h1 ?h2; (case h1 => with_reducible assumption); (case h2 => (repeat (first | (with_reducible exact Below.refl _ _) | (with_reducible refine bl_drew ?_) | (focus ((with_reducible apply bl_call'); with_reducible assumption))))))); (case e => (first | (with_reducible rfl) | (with_reducible exact EQ.out))); rintro e vw ⟨rfl, vb⟩))
    have hbU : Below U.heap.size U vw := by repeat (first | (with_reducible exact Below.refl _ _) | (with_reducible refine bl_drew ?_) | (focus ((with_reducible apply bl_call'); with_reducible assumption)))
    go_upto_region 8 with (fail)
    refine field_region (X1 := X1) (X2 := X2) (X3 := X3) (g1 := w.heap.size) (g2 := w.heap.size + 1) (g3 := w.heap.size + 1 + 1) (g4 := w5.heap.size) (g5 := w5.heap.size + 1) rfl rfl rfl rfl rfl rfl (fun w' hb => by have h := HK.out w' (bl_call hbU hb); exact ⟨h.1, h.2.1, h.2.2.1⟩) (fun w' hb => by have h := HK.out w' (bl_call hbU hb); exact ⟨h.2.2.2.1, h.2.2.2.2.1, h.2.2.2.2.2.1⟩) (fun w' hb => by have h := HK.out w' (bl_call hbU hb); exact ⟨h.2.2.2.2.2.2.1, h.2.2.2.2.2.2.2.1, h.2.2.2.2.2.2.2.2.1⟩) (fun w' hb => by have h := HK.out w' (bl_call hbU hb); exact ⟨h.2.2.2.2.2.2.2.2.2.1, h.2.2.2.2.2.2.2.2.2.2.1, h.2.2.2.2.2.2.2.2.2.2.2.1⟩) (fun w' hb => by have h := HK.out w' (bl_call hbU hb); exact ⟨h.2.2.2.2.2.2.2.2.2.2.2.2.1, h.2.2.2.2.2.2.2.2.2.2.2.2.2.1, h.2.2.2.2.2.2.2.2.2.2.2.2.2.2.1⟩) (P1.out.below hbU) (P2.out.below hbU) (P3.out.below hbU) (P4.out.below hbU) (P5.out.below hbU) ?_
    intro a' w' hb h6 hdf
    obtain ⟨tm, df⟩ := a'
    have hdf' : df = [] := hdf
    subst hdf'
    have h6' : tm[6]?.getD undef = .bool true := by rw [← Array.getD_eq_getD_getElem?]; exact h6
    have HBE := Lib.hid (bl_call (bl_call HW0.out (bl_call K9.out hbU)) hb)
    clear h6 hdf hb
    go_wp2_with fail

    refine bodyPost_ret (v := .bool true) (by simp [results, Try.results11, go_sem, h6']) rfl ⟨rfl, HBE.out⟩
end Go.Proofs.Ytikpdkgamcecjaa
