/- The walk of the statement RationalRounds. -/
import Derived.Test.YtikpdkgamcecjaaC2
import Derived.Test.YtikpdkgamcecjaaS9
import Derived.Deep.RegionHeld3
namespace Go.Proofs.Ytikpdkgamcecjaa
open Go.RowKit
set_option linter.unusedSimpArgs false
set_option linter.unusedVariables false

set_option maxRecDepth 100000 in
set_option maxHeartbeats 8000000 in
theorem RationalRounds_walk (v1 : Value) (r1 : Raw) (w : World) (h1 : RdU w v1 r1) :
    Calls Try.prog 6 #[v1] w fun e w' => e = .returned (.bool true) ∧ Below w.heap.size w w' := by
  have K1 := Lib.hid (fun (W2 : World) (hb : Below w.heap.size w W2) => keepRat_any v1 r1 W2 (h1.1.below hb))
  have S1 := Lib.hid (fun (W2 : World) (hb : Below w.heap.size w W2) (h : smallB r1 = true) => (Num.of h1.1 (small_good h h1.2.1 h1.2.2)).below hb)
  obtain ⟨b1, A1, n1, c1, B1, m1, e1, rfl⟩ := rdR_shape h1.1
  obtain ⟨s1, hs1⟩ : ∃ s, s = smallB r1 := ⟨_, rfl⟩
  obtain ⟨X1, hX1⟩ : ∃ X, X = qv r1 := ⟨_, rfl⟩
  rw [← hs1] at K1 S1
  rw [← hX1] at S1
  clear hs1 hX1 h1
  go_enter Try.func6, Try.ntmps6
  go_wp2_with fail
  obtain ⟨W0, hW0⟩ : ∃ W, W = (w.alloc (.cells #[.bool b1, .slice A1 n1 c1, .slice B1 m1 e1] 24)) := ⟨_, rfl⟩
  have HW0 := Lib.hid (show Below w.heap.size w W0 by rw [hW0]; exact bl_alloc (Below.refl _ _) _)
  have BB1 := Lib.hid (show W0.heap[w.heap.size]? = some (.cells #[.bool b1, .slice A1 n1 c1, .slice B1 m1 e1] 24 (0, 0)) by rw [hW0]; exact blk_new' (by simp) _)
  rw [← hW0]
  clear hW0
  have HC := Lib.hid (show ∀ W : World, Below W0.heap.size W0 W → (W.cell? ⟨w.heap.size, 0, none⟩ = some (.bool b1) ∧ W.cell? ⟨w.heap.size, 1, none⟩ = some (.slice A1 n1 c1) ∧ W.cell? ⟨w.heap.size, 2, none⟩ = some (.slice B1 m1 e1) ∧ w.heap.size < W.heap.size) from fun W hb => ⟨blk_cell (blk_below BB1.out hb) 0, blk_cell (blk_below BB1.out hb) 1, blk_cell (blk_below BB1.out hb) 2, blk_lt (blk_below BB1.out hb)⟩)
  have T0 := Lib.hid (Below.refl W0.heap.size W0)
  refine (K1.out _ (bl_call HW0.out T0.out)).mono ?_
  cases s1
  · rintro e w1 ⟨rfl, hb⟩
    have T1 := Lib.hid (bl_call T0.out hb)
    obtain ⟨y0, y1, y2, y3⟩ := HC.out _ T1.out
    go_wp2_with fail
    go_ret
    exact ⟨rfl, bl_call HW0.out T1.out⟩
  rintro e w1 ⟨rfl, hb⟩
  have N1' := S1.out W0 HW0.out rfl
  have T1 := Lib.hid (bl_call T0.out hb)
  obtain ⟨y0, y1, y2, y3⟩ := HC.out _ T1.out
  clear hb
  have N1 := Lib.hid (N1'.below T1.out)
  clear N1' K1 S1
  have HK := Lib.hid (show ∀ w', Below w1.heap.size w1 w' → (w'.cell? ⟨w.heap.size, 0, none⟩ = some (.bool b1) ∧ w'.cell? ⟨w.heap.size, 1, none⟩ = some (.slice A1 n1 c1) ∧ w'.cell? ⟨w.heap.size, 2, none⟩ = some (.slice B1 m1 e1)) from fun w' hb => by
    obtain ⟨y0, y1, y2, _⟩ := HC.out w' (bl_call T1.out hb)
    exact ⟨y0, y1, y2⟩)
  go_upto_region 3 with (fail)
  go_region_held3 (fun w' => w'.cell? ⟨w.heap.size, 0, none⟩ = some (.bool b1) ∧ w'.cell? ⟨w.heap.size, 1, none⟩ = some (.slice A1 n1 c1) ∧ w'.cell? ⟨w.heap.size, 2, none⟩ = some (.slice B1 m1 e1))
    (first
      | (focus (refine HK.out _ ?_; (repeat (first | (with_reducible exact Below.refl _ _) | (with_reducible refine bl_drew ?_) | (focus ((with_reducible apply bl_call'); with_reducible assumption)))); done)))
    (first
      | (go_at_call 32; apply Calls.mono (floor_n ?hv ?hL); (case hv => (apply num_at ?h1 ?h2; (case h1 => with_reducible assumption); (case h2 => (repeat (first | (with_reducible exact Below.refl _ _) | (with_reducible refine bl_drew ?_) | (focus ((with_reducible apply bl_call'); with_reducible assumption))))))); (case hL => (exact Nat.le_of_ble_eq_true rfl)); rintro e vw ⟨vz, rfl, vh, vb⟩; have VH := Lib.hid vh; clear vh)
      | (go_at_call 33; apply Calls.mono (rfloor_n ?hv ?hL); (case hv => (apply num_at ?h1 ?h2; (case h1 => with_reducible assumption); (case h2 => (repeat (first | (with_reducible exact Below.refl _ _) | (with_reducible refine bl_drew ?_) | (focus ((with_reducible apply bl_call'); with_reducible assumption))))))); (case hL => (exact Nat.le_of_ble_eq_true rfl)); rintro e vw ⟨vz, rfl, vh, vb⟩; have VH := Lib.hid vh; clear vh)
      | (go_at_call 34; apply Calls.mono (ceil_n ?hv ?hL); (case hv => (apply num_at ?h1 ?h2; (case h1 => with_reducible assumption); (case h2 => (repeat (first | (with_reducible exact Below.refl _ _) | (with_reducible refine bl_drew ?_) | (focus ((with_reducible apply bl_call'); with_reducible assumption))))))); (case hL => (exact Nat.le_of_ble_eq_true rfl)); rintro e vw ⟨vz, rfl, vh, vb⟩; have VH := Lib.hid vh; clear vh)
      | (go_at_call 35; apply Calls.mono (rceil_n ?hv ?hL); (case hv => (apply num_at ?h1 ?h2; (case h1 => with_reducible assumption); (case h2 => (repeat (first | (with_reducible exact Below.refl _ _) | (with_reducible refine bl_drew ?_) | (focus ((with_reducible apply bl_call'); with_reducible assumption))))))); (case hL => (exact Nat.le_of_ble_eq_true rfl)); rintro e vw ⟨vz, rfl, vh, vb⟩; have VH := Lib.hid vh; clear vh)
      | (go_at_call 20; apply Calls.mono (same_n ?hv ?hu ?e); (case hv => (apply num_at ?h1 ?h2; (case h1 => with_reducible assumption); (case h2 => (repeat (first | (with_reducible exact Below.refl _ _) | (with_reducible refine bl_drew ?_) | (focus ((with_reducible apply bl_call'); with_reducible assumption))))))); (case hu => (apply num_at ?h1 ?h2; (case h1 => with_reducible assumption); (case h2 => (repeat (first | (with_reducible exact Below.refl _ _) | (with_reducible refine bl_drew ?_) | (focus ((with_reducible apply bl_call'); with_reducible assumption))))))); (case e => (first | (with_reducible rfl))); rintro e vw ⟨rfl, vb⟩)
      | (go_at_call 23; refine (awake_any _).mono ?_; rintro e vw ⟨rfl, vb⟩))
  go_wp2_with fail
  go_ret
  exact ⟨rfl, bl_call (bl_call HW0.out T1.out) (by repeat (first | (with_reducible exact Below.refl _ _) | (with_reducible refine bl_drew ?_) | (focus ((with_reducible apply bl_call'); with_reducible assumption))))⟩
end Go.Proofs.Ytikpdkgamcecjaa
