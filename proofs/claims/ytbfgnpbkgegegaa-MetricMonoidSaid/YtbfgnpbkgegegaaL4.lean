import Derived.Test.YtbfgnpbkgegegaaV8
import Derived.Test.YtbfgnpbkgegegaaF2
import Derived.Deep.RegionHeld3
namespace Go.Proofs.Ytbfgnpbkgegegaa
open Go.RowKit
set_option linter.unusedSimpArgs false
set_option linter.unusedVariables false

set_option maxHeartbeats 1000000 in
theorem rfits_any (n p : Int) (w : World) : Calls Try.prog 41 #[.agg #[.int .i64 n, .int .i64 p]] w fun e w' => e = .returned (.bool (fitsB n p)) ∧ Below w.heap.size w w' := by
  go_enter Try.func41, Try.ntmps41
  go_wp2
  all_goals go_ret
  all_goals refine ⟨?_, (Below.refl _ _).alloc (Nat.le_refl _) _⟩
  all_goals (refine congrArg (fun b => Ending.returned (.bool b)) ?_)
  all_goals (unfold fitsB; simp [*] <;> omega)

def nearB (n p : Int) : Bool := fitsB n p && decide (-288230376151711744 ≤ n ∧ n ≤ 288230376151711744 ∧ p ≤ 288230376151711744)
set_option maxHeartbeats 1000000 in
theorem near_any (n p : Int) (w : World) : Calls Try.prog 20 #[.agg #[.int .i64 n, .int .i64 p]] w fun e w' => e = .returned (.bool (nearB n p)) ∧ Below w.heap.size w w' := by
  cases hf : fitsB n p
  · have E := Lib.hid (show nearB n p = false by unfold nearB; rw [hf]; rfl)
    go_enter Try.func20, Try.ntmps20
    go_wp2_with (go_at_call 41; refine (rfits_any _ _ _).mono ?_; rintro e w1 ⟨rfl, hb⟩)
    go_ret
    exact ⟨by rw [E.out]; rfl, bl_call (bl_alloc (Below.refl _ _) _) hb⟩
  · have E := Lib.hid (show nearB n p = decide (-288230376151711744 ≤ n ∧ n ≤ 288230376151711744 ∧ p ≤ 288230376151711744) by unfold nearB; rw [hf]; rfl)
    go_enter Try.func20, Try.ntmps20
    go_wp2_with fail
    refine (rfits_any _ _ _).mono ?_
    rintro e w1 ⟨rfl, hb⟩
    obtain ⟨hc, _⟩ := bcell hb
    go_wp2_with fail
    all_goals go_ret
    all_goals refine ⟨?_, bl_call (bl_alloc (Below.refl _ _) _) hb⟩
    all_goals rw [E.out]
    all_goals (refine congrArg (fun b => Ending.returned (.bool b)) ?_)
    all_goals first
      | (simp [*]; done)
      | (simp [*]; omega)
      | (rw [Bool.eq_iff_iff]; simp [*]; done)
      | (rw [Bool.eq_iff_iff]; simp [*]; omega)

theorem near_of {n p : Int} (h : nearB n p = true) : -288230376151711744 ≤ n ∧ n ≤ 288230376151711744 ∧ 0 ≤ p ∧ p ≤ 288230376151711744 ∧ n ≤ p := by
  unfold nearB at h
  simp only [Bool.and_eq_true, decide_eq_true_eq] at h
  obtain ⟨h1, h2, h3, h4⟩ := h
  obtain ⟨f1, f2, f3, f4, f5⟩ := fits_of h1
  exact ⟨h2, h3, f3, h4, f5⟩
theorem then_val {an ap bn bp : Int} (ha : fitsB an ap = true) (hb : fitsB bn bp = true) : thenN an ap bn bp = an + bn ∧ thenP an ap bn bp = max ap (an + bp) := by
  unfold thenN thenP; rw [ha, hb]; exact ⟨rfl, rfl⟩
theorem monoid_pure {an ap bn bp cn cp : Int} (ha : nearB an ap = true) (hb : nearB bn bp = true) (hc : nearB cn cp = true) :
    thenN (thenN an ap bn bp) (thenP an ap bn bp) cn cp = thenN an ap (thenN bn bp cn cp) (thenP bn bp cn cp) ∧ thenP (thenN an ap bn bp) (thenP an ap bn bp) cn cp = thenP an ap (thenN bn bp cn cp) (thenP bn bp cn cp) ∧
    thenN an ap 0 0 = an ∧ thenP an ap 0 0 = ap ∧ thenN 0 0 an ap = an ∧ thenP 0 0 an ap = ap := by
  obtain ⟨a1, a2, a3, a4, a5⟩ := near_of ha
  obtain ⟨b1, b2, b3, b4, b5⟩ := near_of hb
  obtain ⟨c1, c2, c3, c4, c5⟩ := near_of hc
  have fa : fitsB an ap = true := fitsB_of (by omega) (by omega) (by omega) (by omega) (by omega)
  have fb : fitsB bn bp = true := fitsB_of (by omega) (by omega) (by omega) (by omega) (by omega)
  have fc : fitsB cn cp = true := fitsB_of (by omega) (by omega) (by omega) (by omega) (by omega)
  have f0 : fitsB 0 0 = true := by decide
  obtain ⟨e1, e2⟩ := then_val fa fb
  obtain ⟨e3, e4⟩ := then_val fb fc
  obtain ⟨e5, e6⟩ := then_val fa f0
  obtain ⟨e7, e8⟩ := then_val f0 fa
  rw [e1, e2, e3, e4, e5, e6, e7, e8]
  have fab : fitsB (an + bn) (max ap (an + bp)) = true := fitsB_of (by omega) (by omega) (by omega) (by omega) (by omega)
  have fbc : fitsB (bn + cn) (max bp (bn + cp)) = true := fitsB_of (by omega) (by omega) (by omega) (by omega) (by omega)
  obtain ⟨e9, e10⟩ := then_val fab fc
  obtain ⟨e11, e12⟩ := then_val fa fbc
  rw [e9, e10, e11, e12]
  refine ⟨?_, ?_, ?_, ?_, ?_, ?_⟩ <;> omega

set_option maxRecDepth 100000 in
set_option maxHeartbeats 4000000 in
theorem monoid_yes (an ap bn bp cn cp : Int) (w : World) (ha : nearB an ap = true) (hb : nearB bn bp = true) (hc : nearB cn cp = true) :
    Calls Try.prog 6 #[.agg #[.int .i64 an, .int .i64 ap], .agg #[.int .i64 bn, .int .i64 bp], .agg #[.int .i64 cn, .int .i64 cp]] w fun e w' => e = .returned (.bool true) ∧ Below w.heap.size w w' := by
  obtain ⟨m1, m2, m3, m4, m5, m6⟩ := monoid_pure ha hb hc
  have N1 := Lib.hid (fun W => near_any an ap W)
  have N2 := Lib.hid (fun W => near_any bn bp W)
  have N3 := Lib.hid (fun W => near_any cn cp W)
  rw [ha] at N1; rw [hb] at N2; rw [hc] at N3
  have T1 := fun W => then_any an ap bn bp W
  have T3 := fun W => then_any bn bp cn cp W
  have T2 := fun W => then_any (thenN an ap bn bp) (thenP an ap bn bp) cn cp W
  have T4 := fun W => then_any an ap (thenN bn bp cn cp) (thenP bn bp cn cp) W
  have T5 := fun W => then_any an ap 0 0 W
  have T6 := fun W => then_any 0 0 an ap W
  rw [m1, m2] at T2
  rw [m3, m4] at T5
  rw [m5, m6] at T6
  clear m1 m2 m3 m4 m5 m6 ha hb hc
  obtain ⟨x3, h3⟩ : ∃ x, x = thenN bn bp cn cp := ⟨_, rfl⟩
  obtain ⟨y3, h4⟩ : ∃ x, x = thenP bn bp cn cp := ⟨_, rfl⟩
  rw [← h3, ← h4] at T2 T3 T4
  obtain ⟨N, hN⟩ : ∃ x, x = thenN an ap x3 y3 := ⟨_, rfl⟩
  obtain ⟨Pk, hP⟩ : ∃ x, x = thenP an ap x3 y3 := ⟨_, rfl⟩
  rw [← hN, ← hP] at T2 T4
  obtain ⟨x1, h1⟩ : ∃ x, x = thenN an ap bn bp := ⟨_, rfl⟩
  obtain ⟨y1, h2⟩ : ∃ x, x = thenP an ap bn bp := ⟨_, rfl⟩
  rw [← h1, ← h2] at T1 T2
  have HT1 := Lib.hid T1
  have HT2 := Lib.hid T2
  have HT3 := Lib.hid T3
  have HT4 := Lib.hid T4
  have HT5 := Lib.hid T5
  have HT6 := Lib.hid T6
  clear T1 T2 T3 T4 T5 T6 h1 h2 h3 h4 hN hP
  go_enter Try.func6, Try.ntmps6
  go_wp2_with fail
  refine (N1.out _).mono ?_
  rintro e w1 ⟨rfl, hb1⟩
  obtain ⟨hc1, _⟩ := bcell hb1
  have z1 := hb1.size
  simp at z1
  have y1' : w.heap.size + 1 < w1.heap.size := by omega
  have y2' : w.heap.size + 1 + 1 < w1.heap.size := by omega
  have y3' : w.heap.size < w1.heap.size := by omega
  go_wp2_with fail
  refine (N2.out _).mono ?_
  rintro e w2 ⟨rfl, hb2⟩
  obtain ⟨hc2, _⟩ := bcell hb2
  have z2 := hb2.size
  have y4' : w.heap.size + 1 < w2.heap.size := by omega
  have y5' : w.heap.size + 1 + 1 < w2.heap.size := by omega
  have y6' : w.heap.size < w2.heap.size := by omega
  go_wp2_with fail
  refine (N3.out _).mono ?_
  rintro e w3 ⟨rfl, hb3⟩
  have g1 : w3.heap[w.heap.size]? = some (.cells #[.int .i64 an, .int .i64 ap] 24 (0, 0)) := blk_below (blk_below (blk_below (blk_alloc (blk_alloc (blk_new w (.cells #[.int .i64 an, .int .i64 ap] 24)) (.cells #[.int .i64 bn, .int .i64 bp] 24)) (.cells #[.int .i64 cn, .int .i64 cp] 24)) hb1) hb2) hb3
  have g2 : w3.heap[w.heap.size + 1]? = some (.cells #[.int .i64 bn, .int .i64 bp] 24 (0, 0)) := blk_below (blk_below (blk_below (blk_alloc (blk_new' (w := w.alloc (.cells #[.int .i64 an, .int .i64 ap] 24)) (by simp) (.cells #[.int .i64 bn, .int .i64 bp] 24)) (.cells #[.int .i64 cn, .int .i64 cp] 24)) hb1) hb2) hb3
  have g3 : w3.heap[w.heap.size + 1 + 1]? = some (.cells #[.int .i64 cn, .int .i64 cp] 24 (0, 0)) := blk_below (blk_below (blk_below (blk_new' (w := (w.alloc (.cells #[.int .i64 an, .int .i64 ap] 24)).alloc (.cells #[.int .i64 bn, .int .i64 bp] 24)) (by simp) (.cells #[.int .i64 cn, .int .i64 cp] 24)) hb1) hb2) hb3
  have HBA := Lib.hid (show Below w.heap.size w w3 from bl_call (bl_call (bl_call (bl_alloc (bl_alloc (bl_alloc (Below.refl _ _) _) _) _) hb1) hb2) hb3)
  have G1 := Lib.hid (blk_alloc g1 (.cells #[.int .i64 0, .int .i64 0] 24))
  have G2 := Lib.hid (blk_alloc g2 (.cells #[.int .i64 0, .int .i64 0] 24))
  have G3 := Lib.hid (blk_alloc g3 (.cells #[.int .i64 0, .int .i64 0] 24))
  have G4 := Lib.hid (blk_new w3 (.cells #[.int .i64 0, .int .i64 0] 24))
  clear g1 g2 g3 hb1 hb2
  go_wp2_with fail
  obtain ⟨W, hW⟩ : ∃ W, W = w3.alloc (.cells #[.int .i64 0, .int .i64 0] 24) := ⟨_, rfl⟩
  rw [← hW] at G1 G2 G3 G4 ⊢
  have HBW := Lib.hid (show Below w.heap.size w W by rw [hW]; exact bl_alloc HBA.out _)
  clear hW hc1 hc2 hb3
  have HK := Lib.hid (show ∀ w', Below W.heap.size W w' → (w'.cell? ⟨w.heap.size, 0, none⟩ = some (.int .i64 an) ∧ w'.cell? ⟨w.heap.size, 1, none⟩ = some (.int .i64 ap) ∧ w'.cell? ⟨w.heap.size + 1, 0, none⟩ = some (.int .i64 bn) ∧ w'.cell? ⟨w.heap.size + 1, 1, none⟩ = some (.int .i64 bp) ∧ w'.cell? ⟨w.heap.size + 1 + 1, 0, none⟩ = some (.int .i64 cn) ∧ w'.cell? ⟨w.heap.size + 1 + 1, 1, none⟩ = some (.int .i64 cp) ∧ w'.cell? ⟨w3.heap.size, 0, none⟩ = some (.int .i64 0) ∧ w'.cell? ⟨w3.heap.size, 1, none⟩ = some (.int .i64 0)) from fun w' hb =>
    ⟨blk_cell (blk_below G1.out hb) 0, blk_cell (blk_below G1.out hb) 1, blk_cell (blk_below G2.out hb) 0, blk_cell (blk_below G2.out hb) 1, blk_cell (blk_below G3.out hb) 0, blk_cell (blk_below G3.out hb) 1, blk_cell (blk_below G4.out hb) 0, blk_cell (blk_below G4.out hb) 1⟩)
  go_region_held3 (fun w' => w'.cell? ⟨w.heap.size, 0, none⟩ = some (.int .i64 an) ∧ w'.cell? ⟨w.heap.size, 1, none⟩ = some (.int .i64 ap) ∧ w'.cell? ⟨w.heap.size + 1, 0, none⟩ = some (.int .i64 bn) ∧ w'.cell? ⟨w.heap.size + 1, 1, none⟩ = some (.int .i64 bp) ∧ w'.cell? ⟨w.heap.size + 1 + 1, 0, none⟩ = some (.int .i64 cn) ∧ w'.cell? ⟨w.heap.size + 1 + 1, 1, none⟩ = some (.int .i64 cp) ∧ w'.cell? ⟨w3.heap.size, 0, none⟩ = some (.int .i64 0) ∧ w'.cell? ⟨w3.heap.size, 1, none⟩ = some (.int .i64 0))
      (first
        | (refine HK.out _ ?_; repeat (first | exact Below.refl _ _ | apply bl_drew | (refine bl_call ?_ (by assumption)))))
      (first
        | (go_at_call 21; (with_reducible refine (HT1.out _).mono ?_); rintro e v1 ⟨rfl, hv1⟩)
        | (go_at_call 21; (with_reducible refine (HT2.out _).mono ?_); rintro e v2 ⟨rfl, hv2⟩)
        | (go_at_call 21; (with_reducible refine (HT3.out _).mono ?_); rintro e v3 ⟨rfl, hv3⟩)
        | (go_at_call 21; (with_reducible refine (HT4.out _).mono ?_); rintro e v4 ⟨rfl, hv4⟩)
        | (go_at_call 21; (with_reducible refine (HT5.out _).mono ?_); rintro e v5 ⟨rfl, hv5⟩)
        | (go_at_call 21; (with_reducible refine (HT6.out _).mono ?_); rintro e v6 ⟨rfl, hv6⟩)
        | (go_at_call 17; refine (awake_any _).mono ?_; rintro e v7 ⟨rfl, hv7⟩))
  go_wp2_with fail
  go_ret
  exact ⟨rfl, by repeat (first | exact HBW.out | apply bl_drew | (refine bl_call ?_ (by assumption)))⟩

set_option maxHeartbeats 2000000 in
theorem monoid_walk (a b c : Int × Int) (w : World) :
    Calls Try.prog 6 #[.agg #[.int .i64 a.1, .int .i64 a.2], .agg #[.int .i64 b.1, .int .i64 b.2], .agg #[.int .i64 c.1, .int .i64 c.2]] w fun e w' => e = .returned (.bool true) ∧ Below w.heap.size w w' := by
  obtain ⟨an, ap⟩ := a
  obtain ⟨bn, bp⟩ := b
  obtain ⟨cn, cp⟩ := c
  simp only
  cases ha : nearB an ap
  · go_enter Try.func6, Try.ntmps6
    go_wp2_with fail
    refine (near_any _ _ _).mono ?_
    rw [ha]
    rintro e w1 ⟨rfl, hb1⟩
    go_wp2_with fail
    go_ret
    exact ⟨rfl, bl_call (bl_alloc (bl_alloc (bl_alloc (Below.refl _ _) _) _) _) hb1⟩
  · cases hb : nearB bn bp
    · go_enter Try.func6, Try.ntmps6
      go_wp2_with fail
      refine (near_any _ _ _).mono ?_
      rw [ha]
      rintro e w1 ⟨rfl, hb1⟩
      obtain ⟨hc1, _⟩ := bcell hb1
      have z1 := hb1.size
      simp at z1
      have y1' : w.heap.size + 1 < w1.heap.size := by omega
      go_wp2_with fail
      refine (near_any _ _ _).mono ?_
      rw [hb]
      rintro e w2 ⟨rfl, hb2⟩
      go_wp2_with fail
      go_ret
      exact ⟨rfl, bl_call (bl_call (bl_alloc (bl_alloc (bl_alloc (Below.refl _ _) _) _) _) hb1) hb2⟩
    · cases hc : nearB cn cp
      · go_enter Try.func6, Try.ntmps6
        go_wp2_with fail
        refine (near_any _ _ _).mono ?_
        rw [ha]
        rintro e w1 ⟨rfl, hb1⟩
        obtain ⟨hc1, _⟩ := bcell hb1
        have z1 := hb1.size
        simp at z1
        have y1' : w.heap.size + 1 < w1.heap.size := by omega
        have y2' : w.heap.size + 1 + 1 < w1.heap.size := by omega
        go_wp2_with fail
        refine (near_any _ _ _).mono ?_
        rw [hb]
        rintro e w2 ⟨rfl, hb2⟩
        obtain ⟨hc2, _⟩ := bcell hb2
        have z2 := hb2.size
        have y3' : w.heap.size + 1 + 1 < w2.heap.size := by omega
        go_wp2_with fail
        refine (near_any _ _ _).mono ?_
        rw [hc]
        rintro e w3 ⟨rfl, hb3⟩
        go_wp2_with fail
        go_ret
        exact ⟨rfl, bl_call (bl_call (bl_call (bl_alloc (bl_alloc (bl_alloc (Below.refl _ _) _) _) _) hb1) hb2) hb3⟩
      · exact monoid_yes an ap bn bp cn cp w ha hb hc
end Go.Proofs.Ytbfgnpbkgegegaa
