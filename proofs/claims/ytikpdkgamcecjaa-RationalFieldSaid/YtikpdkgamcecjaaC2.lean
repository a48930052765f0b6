/- The walks of the statements RationalAdds and RationalCompares. -/
import Derived.Test.YtikpdkgamcecjaaT1
import Derived.Deep.RegionHeld3
namespace Go.Proofs.Ytikpdkgamcecjaa
open Go.RowKit
set_option linter.unusedSimpArgs false
set_option linter.unusedVariables false

theorem rdR_shape {w : World} {v : Value} {r : Raw} (h : RdR w v r) : ∃ b A1 n1 c1 A2 n2 c2, v = .agg #[.bool b, .slice A1 n1 c1, .slice A2 n2 c2] := by
  obtain ⟨n, d, rfl, hn, hd⟩ := h
  obtain ⟨A1, c1, rfl, _, _⟩ := hn.len
  obtain ⟨A2, c2, rfl, _, _⟩ := hd.len
  exact ⟨_, _, _, _, _, _, _, rfl⟩
set_option maxRecDepth 100000 in
set_option maxHeartbeats 8000000 in
theorem RationalAdds_walk (v1 : Value) (r1 : Raw) (v2 : Value) (r2 : Raw) (w : World) (h1 : RdU w v1 r1) (h2 : RdU w v2 r2) :
    Calls Try.prog 8 #[v1, v2] w fun e w' => e = .returned (.bool true) ∧ Below w.heap.size w w' := by
  have K1 := Lib.hid (fun (W2 : World) (hb : Below w.heap.size w W2) => keepRat_any v1 r1 W2 (h1.1.below hb))
  have S1 := Lib.hid (fun (W2 : World) (hb : Below w.heap.size w W2) (h : smallB r1 = true) => (Num.of h1.1 (small_good h h1.2.1 h1.2.2)).below hb)
  obtain ⟨b1, A1, n1, c1, B1, m1, e1, rfl⟩ := rdR_shape h1.1
  obtain ⟨s1, hs1⟩ : ∃ s, s = smallB r1 := ⟨_, rfl⟩
  obtain ⟨X1, hX1⟩ : ∃ X, X = qv r1 := ⟨_, rfl⟩
  rw [← hs1] at K1 S1
  rw [← hX1] at S1
  clear hs1 hX1 h1
  have K2 := Lib.hid (fun (W2 : World) (hb : Below w.heap.size w W2) => keepRat_any v2 r2 W2 (h2.1.below hb))
  have S2 := Lib.hid (fun (W2 : World) (hb : Below w.heap.size w W2) (h : smallB r2 = true) => (Num.of h2.1 (small_good h h2.2.1 h2.2.2)).below hb)
  obtain ⟨b2, A2, n2, c2, B2, m2, e2, rfl⟩ := rdR_shape h2.1
  obtain ⟨s2, hs2⟩ : ∃ s, s = smallB r2 := ⟨_, rfl⟩
  obtain ⟨X2, hX2⟩ : ∃ X, X = qv r2 := ⟨_, rfl⟩
  rw [← hs2] at K2 S2
  rw [← hX2] at S2
  clear hs2 hX2 h2
  go_enter Try.func8, Try.ntmps8
  go_wp2_with fail
  obtain ⟨W0, hW0⟩ : ∃ W, W = ((w.alloc (.cells #[.bool b1, .slice A1 n1 c1, .slice B1 m1 e1] 24)).alloc (.cells #[.bool b2, .slice A2 n2 c2, .slice B2 m2 e2] 24)) := ⟨_, rfl⟩
  have HW0 := Lib.hid (show Below w.heap.size w W0 by rw [hW0]; exact bl_alloc (bl_alloc (Below.refl _ _) _) _)
  have BB1 := Lib.hid (show W0.heap[w.heap.size]? = some (.cells #[.bool b1, .slice A1 n1 c1, .slice B1 m1 e1] 24 (0, 0)) by rw [hW0]; exact blk_alloc (blk_new' (by simp) _) _)
  have BB2 := Lib.hid (show W0.heap[w.heap.size + 1]? = some (.cells #[.bool b2, .slice A2 n2 c2, .slice B2 m2 e2] 24 (0, 0)) by rw [hW0]; exact blk_new' (by simp) _)
  rw [← hW0]
  clear hW0
  have HC := Lib.hid (show ∀ W : World, Below W0.heap.size W0 W → (W.cell? ⟨w.heap.size, 0, none⟩ = some (.bool b1) ∧ W.cell? ⟨w.heap.size, 1, none⟩ = some (.slice A1 n1 c1) ∧ W.cell? ⟨w.heap.size, 2, none⟩ = some (.slice B1 m1 e1) ∧ W.cell? ⟨w.heap.size + 1, 0, none⟩ = some (.bool b2) ∧ W.cell? ⟨w.heap.size + 1, 1, none⟩ = some (.slice A2 n2 c2) ∧ W.cell? ⟨w.heap.size + 1, 2, none⟩ = some (.slice B2 m2 e2) ∧ w.heap.size < W.heap.size ∧ w.heap.size + 1 < W.heap.size) from fun W hb => ⟨blk_cell (blk_below BB1.out hb) 0, blk_cell (blk_below BB1.out hb) 1, blk_cell (blk_below BB1.out hb) 2, blk_cell (blk_below BB2.out hb) 0, blk_cell (blk_below BB2.out hb) 1, blk_cell (blk_below BB2.out hb) 2, blk_lt (blk_below BB1.out hb), blk_lt (blk_below BB2.out hb)⟩)
  have T0 := Lib.hid (Below.refl W0.heap.size W0)
  refine (K1.out _ (bl_call HW0.out T0.out)).mono ?_
  cases s1
  · rintro e w1 ⟨rfl, hb⟩
    have T1 := Lib.hid (bl_call T0.out hb)
    obtain ⟨y0, y1, y2, y3, y4, y5, y6, y7⟩ := HC.out _ T1.out
    go_wp2_with fail
    go_ret
    exact ⟨rfl, bl_call HW0.out T1.out⟩
  rintro e w1 ⟨rfl, hb⟩
  have N1' := S1.out W0 HW0.out rfl
  have T1 := Lib.hid (bl_call T0.out hb)
  obtain ⟨y0, y1, y2, y3, y4, y5, y6, y7⟩ := HC.out _ T1.out
  clear hb
  go_wp2_with fail
  clear y0 y1 y2 y3 y4 y5 y6 y7
  refine (K2.out _ (bl_call HW0.out T1.out)).mono ?_
  cases s2
  · rintro e w2 ⟨rfl, hb⟩
    have T2 := Lib.hid (bl_call T1.out hb)
    obtain ⟨y0, y1, y2, y3, y4, y5, y6, y7⟩ := HC.out _ T2.out
    go_wp2_with fail
    go_ret
    exact ⟨rfl, bl_call HW0.out T2.out⟩
  rintro e w2 ⟨rfl, hb⟩
  have N2' := S2.out W0 HW0.out rfl
  have T2 := Lib.hid (bl_call T1.out hb)
  obtain ⟨y0, y1, y2, y3, y4, y5, y6, y7⟩ := HC.out _ T2.out
  clear hb
  have N1 := Lib.hid (N1'.below T2.out)
  clear N1' K1 S1
  have N2 := Lib.hid (N2'.below T2.out)
  clear N2' K2 S2
  have HK := Lib.hid (show ∀ w', Below w2.heap.size w2 w' → (w'.cell? ⟨w.heap.size, 0, none⟩ = some (.bool b1) ∧ w'.cell? ⟨w.heap.size, 1, none⟩ = some (.slice A1 n1 c1) ∧ w'.cell? ⟨w.heap.size, 2, none⟩ = some (.slice B1 m1 e1) ∧ w'.cell? ⟨w.heap.size + 1, 0, none⟩ = some (.bool b2) ∧ w'.cell? ⟨w.heap.size + 1, 1, none⟩ = some (.slice A2 n2 c2) ∧ w'.cell? ⟨w.heap.size + 1, 2, none⟩ = some (.slice B2 m2 e2)) from fun w' hb => by
    obtain ⟨y0, y1, y2, y3, y4, y5, _, _⟩ := HC.out w' (bl_call T2.out hb)
    exact ⟨y0, y1, y2, y3, y4, y5⟩)
  go_upto_region 3 with (fail)
  go_region_held3 (fun w' => w'.cell? ⟨w.heap.size, 0, none⟩ = some (.bool b1) ∧ w'.cell? ⟨w.heap.size, 1, none⟩ = some (.slice A1 n1 c1) ∧ w'.cell? ⟨w.heap.size, 2, none⟩ = some (.slice B1 m1 e1) ∧ w'.cell? ⟨w.heap.size + 1, 0, none⟩ = some (.bool b2) ∧ w'.cell? ⟨w.heap.size + 1, 1, none⟩ = some (.slice A2 n2 c2) ∧ w'.cell? ⟨w.heap.size + 1, 2, none⟩ = some (.slice B2 m2 e2))
    (first
      | (focus (refine HK.out _ ?_; (repeat (first | (with_reducible exact Below.refl _ _) | (with_reducible refine bl_drew ?_) | (focus ((with_reducible apply bl_call'); with_reducible assumption)))); done)))
    (first
      | (go_at_call 39; apply Calls.mono (neg_n ?hv ?hL); (case hv => (apply num_at ?h1 ?h2; (case h1 => with_reducible assumption); (case h2 => (repeat (first | (with_reducible exact Below.refl _ _) | (with_reducible refine bl_drew ?_) | (focus ((with_reducible apply bl_call'); with_reducible assumption))))))); (case hL => (exact Nat.le_of_ble_eq_true rfl)); rintro e vw ⟨vz, rfl, vh, vb⟩; have VH := Lib.hid vh; clear vh)
      | (go_at_call 40; apply Calls.mono (rneg_n ?hv ?hL); (case hv => (apply num_at ?h1 ?h2; (case h1 => with_reducible assumption); (case h2 => (repeat (first | (with_reducible exact Below.refl _ _) | (with_reducible refine bl_drew ?_) | (focus ((with_reducible apply bl_call'); with_reducible assumption))))))); (case hL => (exact Nat.le_of_ble_eq_true rfl)); rintro e vw ⟨vz, rfl, vh, vb⟩; have VH := Lib.hid vh; clear vh)
      | (go_at_call 41; apply Calls.mono (abs_n ?hv ?hL); (case hv => (apply num_at ?h1 ?h2; (case h1 => with_reducible assumption); (case h2 => (repeat (first | (with_reducible exact Below.refl _ _) | (with_reducible refine bl_drew ?_) | (focus ((with_reducible apply bl_call'); with_reducible assumption))))))); (case hL => (exact Nat.le_of_ble_eq_true rfl)); rintro e vw ⟨vz, rfl, vh, vb⟩; have VH := Lib.hid vh; clear vh)
      | (go_at_call 42; apply Calls.mono (rabs_n ?hv ?hL); (case hv => (apply num_at ?h1 ?h2; (case h1 => with_reducible assumption); (case h2 => (repeat (first | (with_reducible exact Below.refl _ _) | (with_reducible refine bl_drew ?_) | (focus ((with_reducible apply bl_call'); with_reducible assumption))))))); (case hL => (exact Nat.le_of_ble_eq_true rfl)); rintro e vw ⟨vz, rfl, vh, vb⟩; have VH := Lib.hid vh; clear vh)
      | (go_at_call 43; apply Calls.mono (add_n ?hv ?hu ?hL ?hM); (case hv => (apply num_at ?h1 ?h2; (case h1 => with_reducible assumption); (case h2 => (repeat (first | (with_reducible exact Below.refl _ _) | (with_reducible refine bl_drew ?_) | (focus ((with_reducible apply bl_call'); with_reducible assumption))))))); (case hu => (apply num_at ?h1 ?h2; (case h1 => with_reducible assumption); (case h2 => (repeat (first | (with_reducible exact Below.refl _ _) | (with_reducible refine bl_drew ?_) | (focus ((with_reducible apply bl_call'); with_reducible assumption))))))); (case hL => (exact Nat.le_of_ble_eq_true rfl)); (case hM => (exact Nat.le_of_ble_eq_true rfl)); rintro e vw ⟨vz, rfl, vh, vb⟩; have VH := Lib.hid vh; clear vh)
      | (go_at_call 44; apply Calls.mono (radd_n ?hv ?hu ?hL ?hM); (case hv => (apply num_at ?h1 ?h2; (case h1 => with_reducible assumption); (case h2 => (repeat (first | (with_reducible exact Below.refl _ _) | (with_reducible refine bl_drew ?_) | (focus ((with_reducible apply bl_call'); with_reducible assumption))))))); (case hu => (apply num_at ?h1 ?h2; (case h1 => with_reducible assumption); (case h2 => (repeat (first | (with_reducible exact Below.refl _ _) | (with_reducible refine bl_drew ?_) | (focus ((with_reducible apply bl_call'); with_reducible assumption))))))); (case hL => (exact Nat.le_of_ble_eq_true rfl)); (case hM => (exact Nat.le_of_ble_eq_true rfl)); rintro e vw ⟨vz, rfl, vh, vb⟩; have VH := Lib.hid vh; clear vh)
      | (go_at_call 45; apply Calls.mono (sub_n ?hv ?hu ?hL ?hM); (case hv => (apply num_at ?h1 ?h2; (case h1 => with_reducible assumption); (case h2 => (repeat (first | (with_reducible exact Below.refl _ _) | (with_reducible refine bl_drew ?_) | (focus ((with_reducible apply bl_call'); with_reducible assumption))))))); (case hu => (apply num_at ?h1 ?h2; (case h1 => with_reducible assumption); (case h2 => (repeat (first | (with_reducible exact Below.refl _ _) | (with_reducible refine bl_drew ?_) | (focus ((with_reducible apply bl_call'); with_reducible assumption))))))); (case hL => (exact Nat.le_of_ble_eq_true rfl)); (case hM => (exact Nat.le_of_ble_eq_true rfl)); rintro e vw ⟨vz, rfl, vh, vb⟩; have VH := Lib.hid vh; clear vh)
      | (go_at_call 46; apply Calls.mono (rsub_n ?hv ?hu ?hL ?hM); (case hv => (apply num_at ?h1 ?h2; (case h1 => with_reducible assumption); (case h2 => (repeat (first | (with_reducible exact Below.refl _ _) | (with_reducible refine bl_drew ?_) | (focus ((with_reducible apply bl_call'); with_reducible assumption))))))); (case hu => (apply num_at ?h1 ?h2; (case h1 => with_reducible assumption); (case h2 => (repeat (first | (with_reducible exact Below.refl _ _) | (with_reducible refine bl_drew ?_) | (focus ((with_reducible apply bl_call'); with_reducible assumption))))))); (case hL => (exact Nat.le_of_ble_eq_true rfl)); (case hM => (exact Nat.le_of_ble_eq_true rfl)); rintro e vw ⟨vz, rfl, vh, vb⟩; have VH := Lib.hid vh; clear vh)
      | (go_at_call 20; apply Calls.mono (same_n ?hv ?hu ?e); (case hv => (apply num_at ?h1 ?h2; (case h1 => with_reducible assumption); (case h2 => (repeat (first | (with_reducible exact Below.refl _ _) | (with_reducible refine bl_drew ?_) | (focus ((with_reducible apply bl_call'); with_reducible assumption))))))); (case hu => (apply num_at ?h1 ?h2; (case h1 => with_reducible assumption); (case h2 => (repeat (first | (with_reducible exact Below.refl _ _) | (with_reducible refine bl_drew ?_) | (focus ((with_reducible apply bl_call'); with_reducible assumption))))))); (case e => (first | (with_reducible rfl))); rintro e vw ⟨rfl, vb⟩)
      | (go_at_call 23; refine (awake_any _).mono ?_; rintro e vw ⟨rfl, vb⟩))
  go_wp2_with fail
  go_ret
  exact ⟨rfl, bl_call (bl_call HW0.out T2.out) (by repeat (first | (with_reducible exact Below.refl _ _) | (with_reducible refine bl_drew ?_) | (focus ((with_reducible apply bl_call'); with_reducible assumption))))⟩
set_option maxRecDepth 100000 in
set_option maxHeartbeats 8000000 in
theorem RationalCompares_walk (v1 : Value) (r1 : Raw) (v2 : Value) (r2 : Raw) (w : World) (h1 : RdU w v1 r1) (h2 : RdU w v2 r2) :
    Calls Try.prog 10 #[v1, v2] w fun e w' => e = .returned (.bool true) ∧ Below w.heap.size w w' := by
  have K1 := Lib.hid (fun (W2 : World) (hb : Below w.heap.size w W2) => keepRat_any v1 r1 W2 (h1.1.below hb))
  have S1 := Lib.hid (fun (W2 : World) (hb : Below w.heap.size w W2) (h : smallB r1 = true) => (Num.of h1.1 (small_good h h1.2.1 h1.2.2)).below hb)
  obtain ⟨b1, A1, n1, c1, B1, m1, e1, rfl⟩ := rdR_shape h1.1
  obtain ⟨s1, hs1⟩ : ∃ s, s = smallB r1 := ⟨_, rfl⟩
  obtain ⟨X1, hX1⟩ : ∃ X, X = qv r1 := ⟨_, rfl⟩
  rw [← hs1] at K1 S1
  rw [← hX1] at S1
  clear hs1 hX1 h1
  have K2 := Lib.hid (fun (W2 : World) (hb : Below w.heap.size w W2) => keepRat_any v2 r2 W2 (h2.1.below hb))
  have S2 := Lib.hid (fun (W2 : World) (hb : Below w.heap.size w W2) (h : smallB r2 = true) => (Num.of h2.1 (small_good h h2.2.1 h2.2.2)).below hb)
  obtain ⟨b2, A2, n2, c2, B2, m2, e2, rfl⟩ := rdR_shape h2.1
  obtain ⟨s2, hs2⟩ : ∃ s, s = smallB r2 := ⟨_, rfl⟩
  obtain ⟨X2, hX2⟩ : ∃ X, X = qv r2 := ⟨_, rfl⟩
  rw [← hs2] at K2 S2
  rw [← hX2] at S2
  clear hs2 hX2 h2
  go_enter Try.func10, Try.ntmps10
  go_wp2_with fail
  obtain ⟨W0, hW0⟩ : ∃ W, W = ((w.alloc (.cells #[.bool b1, .slice A1 n1 c1, .slice B1 m1 e1] 24)).alloc (.cells #[.bool b2, .slice A2 n2 c2, .slice B2 m2 e2] 24)) := ⟨_, rfl⟩
  have HW0 := Lib.hid (show Below w.heap.size w W0 by rw [hW0]; exact bl_alloc (bl_alloc (Below.refl _ _) _) _)
  have BB1 := Lib.hid (show W0.heap[w.heap.size]? = some (.cells #[.bool b1, .slice A1 n1 c1, .slice B1 m1 e1] 24 (0, 0)) by rw [hW0]; exact blk_alloc (blk_new' (by simp) _) _)
  have BB2 := Lib.hid (show W0.heap[w.heap.size + 1]? = some (.cells #[.bool b2, .slice A2 n2 c2, .slice B2 m2 e2] 24 (0, 0)) by rw [hW0]; exact blk_new' (by simp) _)
  rw [← hW0]
  clear hW0
  have HC := Lib.hid (show ∀ W : World, Below W0.heap.size W0 W → (W.cell? ⟨w.heap.size, 0, none⟩ = some (.bool b1) ∧ W.cell? ⟨w.heap.size, 1, none⟩ = some (.slice A1 n1 c1) ∧ W.cell? ⟨w.heap.size, 2, none⟩ = some (.slice B1 m1 e1) ∧ W.cell? ⟨w.heap.size + 1, 0, none⟩ = some (.bool b2) ∧ W.cell? ⟨w.heap.size + 1, 1, none⟩ = some (.slice A2 n2 c2) ∧ W.cell? ⟨w.heap.size + 1, 2, none⟩ = some (.slice B2 m2 e2) ∧ w.heap.size < W.heap.size ∧ w.heap.size + 1 < W.heap.size) from fun W hb => ⟨blk_cell (blk_below BB1.out hb) 0, blk_cell (blk_below BB1.out hb) 1, blk_cell (blk_below BB1.out hb) 2, blk_cell (blk_below BB2.out hb) 0, blk_cell (blk_below BB2.out hb) 1, blk_cell (blk_below BB2.out hb) 2, blk_lt (blk_below BB1.out hb), blk_lt (blk_below BB2.out hb)⟩)
  have T0 := Lib.hid (Below.refl W0.heap.size W0)
  refine (K1.out _ (bl_call HW0.out T0.out)).mono ?_
  cases s1
  · rintro e w1 ⟨rfl, hb⟩
    have T1 := Lib.hid (bl_call T0.out hb)
    obtain ⟨y0, y1, y2, y3, y4, y5, y6, y7⟩ := HC.out _ T1.out
    go_wp2_with fail
    go_ret
    exact ⟨rfl, bl_call HW0.out T1.out⟩
  rintro e w1 ⟨rfl, hb⟩
  have N1' := S1.out W0 HW0.out rfl
  have T1 := Lib.hid (bl_call T0.out hb)
  obtain ⟨y0, y1, y2, y3, y4, y5, y6, y7⟩ := HC.out _ T1.out
  clear hb
  go_wp2_with fail
  clear y0 y1 y2 y3 y4 y5 y6 y7
  refine (K2.out _ (bl_call HW0.out T1.out)).mono ?_
  cases s2
  · rintro e w2 ⟨rfl, hb⟩
    have T2 := Lib.hid (bl_call T1.out hb)
    obtain ⟨y0, y1, y2, y3, y4, y5, y6, y7⟩ := HC.out _ T2.out
    go_wp2_with fail
    go_ret
    exact ⟨rfl, bl_call HW0.out T2.out⟩
  rintro e w2 ⟨rfl, hb⟩
  have N2' := S2.out W0 HW0.out rfl
  have T2 := Lib.hid (bl_call T1.out hb)
  obtain ⟨y0, y1, y2, y3, y4, y5, y6, y7⟩ := HC.out _ T2.out
  clear hb
  have N1 := Lib.hid (N1'.below T2.out)
  clear N1' K1 S1
  have N2 := Lib.hid (N2'.below T2.out)
  clear N2' K2 S2
  have HK := Lib.hid (show ∀ w', Below w2.heap.size w2 w' → (w'.cell? ⟨w.heap.size, 0, none⟩ = some (.bool b1) ∧ w'.cell? ⟨w.heap.size, 1, none⟩ = some (.slice A1 n1 c1) ∧ w'.cell? ⟨w.heap.size, 2, none⟩ = some (.slice B1 m1 e1) ∧ w'.cell? ⟨w.heap.size + 1, 0, none⟩ = some (.bool b2) ∧ w'.cell? ⟨w.heap.size + 1, 1, none⟩ = some (.slice A2 n2 c2) ∧ w'.cell? ⟨w.heap.size + 1, 2, none⟩ = some (.slice B2 m2 e2)) from fun w' hb => by
    obtain ⟨y0, y1, y2, y3, y4, y5, _, _⟩ := HC.out w' (bl_call T2.out hb)
    exact ⟨y0, y1, y2, y3, y4, y5⟩)
  go_upto_region 3 with (fail)
  go_region_held3 (fun w' => w'.cell? ⟨w.heap.size, 0, none⟩ = some (.bool b1) ∧ w'.cell? ⟨w.heap.size, 1, none⟩ = some (.slice A1 n1 c1) ∧ w'.cell? ⟨w.heap.size, 2, none⟩ = some (.slice B1 m1 e1) ∧ w'.cell? ⟨w.heap.size + 1, 0, none⟩ = some (.bool b2) ∧ w'.cell? ⟨w.heap.size + 1, 1, none⟩ = some (.slice A2 n2 c2) ∧ w'.cell? ⟨w.heap.size + 1, 2, none⟩ = some (.slice B2 m2 e2))
    (first
      | (focus (refine HK.out _ ?_; (repeat (first | (with_reducible exact Below.refl _ _) | (with_reducible refine bl_drew ?_) | (focus ((with_reducible apply bl_call'); with_reducible assumption)))); done)))
    (first
      | (go_at_call 48; apply Calls.mono (canon_n ?hv ?hL); (case hv => (apply num_at ?h1 ?h2; (case h1 => with_reducible assumption); (case h2 => (repeat (first | (with_reducible exact Below.refl _ _) | (with_reducible refine bl_drew ?_) | (focus ((with_reducible apply bl_call'); with_reducible assumption))))))); (case hL => (exact Nat.le_of_ble_eq_true rfl)); rintro e vw ⟨vz, rfl, vh, vb⟩; have VH := Lib.hid vh; clear vh)
      | (go_at_call 49; apply Calls.mono (rcanon_n ?hv ?hL); (case hv => (apply num_at ?h1 ?h2; (case h1 => with_reducible assumption); (case h2 => (repeat (first | (with_reducible exact Below.refl _ _) | (with_reducible refine bl_drew ?_) | (focus ((with_reducible apply bl_call'); with_reducible assumption))))))); (case hL => (exact Nat.le_of_ble_eq_true rfl)); rintro e vw ⟨vz, rfl, vh, vb⟩; have VH := Lib.hid vh; clear vh)
      | (go_at_call 50; apply Calls.mono (integral_n ?hv ?hL); (case hv => (apply num_at ?h1 ?h2; (case h1 => with_reducible assumption); (case h2 => (repeat (first | (with_reducible exact Below.refl _ _) | (with_reducible refine bl_drew ?_) | (focus ((with_reducible apply bl_call'); with_reducible assumption))))))); (case hL => (exact Nat.le_of_ble_eq_true rfl)); rintro e vw ⟨rfl, vb⟩)
      | (go_at_call 51; apply Calls.mono (rintegral_n ?hv ?hL); (case hv => (apply num_at ?h1 ?h2; (case h1 => with_reducible assumption); (case h2 => (repeat (first | (with_reducible exact Below.refl _ _) | (with_reducible refine bl_drew ?_) | (focus ((with_reducible apply bl_call'); with_reducible assumption))))))); (case hL => (exact Nat.le_of_ble_eq_true rfl)); rintro e vw ⟨rfl, vb⟩)
      | (go_at_call 52; apply Calls.mono (sign_n ?hv ?hL); (case hv => (apply num_at ?h1 ?h2; (case h1 => with_reducible assumption); (case h2 => (repeat (first | (with_reducible exact Below.refl _ _) | (with_reducible refine bl_drew ?_) | (focus ((with_reducible apply bl_call'); with_reducible assumption))))))); (case hL => (exact Nat.le_of_ble_eq_true rfl)); rintro e vw ⟨rfl, vb⟩)
      | (go_at_call 53; apply Calls.mono (rsign_n ?hv ?hL); (case hv => (apply num_at ?h1 ?h2; (case h1 => with_reducible assumption); (case h2 => (repeat (first | (with_reducible exact Below.refl _ _) | (with_reducible refine bl_drew ?_) | (focus ((with_reducible apply bl_call'); with_reducible assumption))))))); (case hL => (exact Nat.le_of_ble_eq_true rfl)); rintro e vw ⟨rfl, vb⟩)
      | (go_at_call 47; apply Calls.mono (cmp_n ?hv ?hu ?hL ?hM); (case hv => (apply num_at ?h1 ?h2; (case h1 => with_reducible assumption); (case h2 => (repeat (first | (with_reducible exact Below.refl _ _) | (with_reducible refine bl_drew ?_) | (focus ((with_reducible apply bl_call'); with_reducible assumption))))))); (case hu => (apply num_at ?h1 ?h2; (case h1 => with_reducible assumption); (case h2 => (repeat (first | (with_reducible exact Below.refl _ _) | (with_reducible refine bl_drew ?_) | (focus ((with_reducible apply bl_call'); with_reducible assumption))))))); (case hL => (exact Nat.le_of_ble_eq_true rfl)); (case hM => (exact Nat.le_of_ble_eq_true rfl)); rintro e vw ⟨rfl, vb⟩)
      | (go_at_call 54; apply Calls.mono (rcmp_n ?hv ?hu ?hL ?hM); (case hv => (apply num_at ?h1 ?h2; (case h1 => with_reducible assumption); (case h2 => (repeat (first | (with_reducible exact Below.refl _ _) | (with_reducible refine bl_drew ?_) | (focus ((with_reducible apply bl_call'); with_reducible assumption))))))); (case hu => (apply num_at ?h1 ?h2; (case h1 => with_reducible assumption); (case h2 => (repeat (first | (with_reducible exact Below.refl _ _) | (with_reducible refine bl_drew ?_) | (focus ((with_reducible apply bl_call'); with_reducible assumption))))))); (case hL => (exact Nat.le_of_ble_eq_true rfl)); (case hM => (exact Nat.le_of_ble_eq_true rfl)); rintro e vw ⟨rfl, vb⟩)
      | (go_at_call 20; apply Calls.mono (same_n ?hv ?hu ?e); (case hv => (apply num_at ?h1 ?h2; (case h1 => with_reducible assumption); (case h2 => (repeat (first | (with_reducible exact Below.refl _ _) | (with_reducible refine bl_drew ?_) | (focus ((with_reducible apply bl_call'); with_reducible assumption))))))); (case hu => (apply num_at ?h1 ?h2; (case h1 => with_reducible assumption); (case h2 => (repeat (first | (with_reducible exact Below.refl _ _) | (with_reducible refine bl_drew ?_) | (focus ((with_reducible apply bl_call'); with_reducible assumption))))))); (case e => (first | (with_reducible rfl))); rintro e vw ⟨rfl, vb⟩)
      | (go_at_call 23; refine (awake_any _).mono ?_; rintro e vw ⟨rfl, vb⟩))
  go_wp2_with fail
  go_ret
  exact ⟨rfl, bl_call (bl_call HW0.out T2.out) (by repeat (first | (with_reducible exact Below.refl _ _) | (with_reducible refine bl_drew ?_) | (focus ((with_reducible apply bl_call'); with_reducible assumption))))⟩
end Go.Proofs.Ytikpdkgamcecjaa
