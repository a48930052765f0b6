import Derived.Test.YtbfgnpbkgegegaaC4
import Derived.Deep.RegionHeld3
import Derived.IntWalk
namespace Go.Proofs.Ytbfgnpbkgegegaa
open Go.RowKit
set_option linter.unusedSimpArgs false
set_option linter.unusedVariables false

theorem two_metric {W : World} {g : Nat} {b f b' f' : Value} {m m' : List Int × List Int} {t : TypeId} (hg : g = W.heap.size) (h : RdM W (.agg #[b, f]) m.1 m.2) (h' : RdM W (.agg #[b', f']) m'.1 m'.2) : RdMs (W.alloc (.cells #[b, f, b', f'] t)) (.slice (some ⟨g, 0, none⟩) 2 2) [m, m'] := by
  subst hg
  have G := blk_new W (.cells #[b, f, b', f'] t)
  have cut : ∀ {x y : Value} {k : List Int × List Int}, RdM W (.agg #[x, y]) k.1 k.2 → Rd .i64 (W.alloc (.cells #[b, f, b', f'] t)) x k.1 ∧ Rd .i64 (W.alloc (.cells #[b, f, b', f'] t)) y k.2 := by
    intro x y k hk
    obtain ⟨x', y', e, h4, h5⟩ := hk
    injection e with e
    have e1 : x = x' := by have := congrArg (fun a => a[0]?) e; simpa using this
    have e2 : y = y' := by have := congrArg (fun a => a[1]?) e; simpa using this
    subst e1; subst e2
    exact ⟨h4.below (bl_alloc (Below.refl _ _) _), h5.below (bl_alloc (Below.refl _ _) _)⟩
  refine ⟨_, 2, rfl, ⟨by simp, by simp⟩, .inr ⟨_, rfl, fun j hj => ?_⟩⟩
  rcases (show j = 0 ∨ j = 1 by simp at hj; omega) with rfl | rfl
  · refine ⟨b, f, ?_, ?_, (cut h).1, (cut h).2⟩
    · rw [add_at]; exact blk_cell G 0
    · rw [add_at]; exact blk_cell G 1
  · refine ⟨b', f', ?_, ?_, (cut h').1, (cut h').2⟩
    · rw [add_at]; exact blk_cell G 2
    · rw [add_at]; exact blk_cell G 3
theorem comb_zero {ms : List (List Int × List Int)} {ws : List Int} (h : combE ms ws = 0) : ms.any badM = false ∧ ms.length = ws.length ∧ ws.any heavyB = false ∧ validM (sumB ms ws) (sumF ms ws) = true := by
  unfold combE at h
  by_cases h1 : ms.any badM = true
  · rw [if_pos h1] at h; cases h
  · rw [if_neg h1] at h
    by_cases h2 : ms.length ≠ ws.length ∨ ws.any heavyB = true
    · rw [if_pos h2] at h; cases h
    · rw [if_neg h2] at h
      by_cases h3 : (sumB ms ws ++ sumF ms ws).any heavyB = true
      · rw [if_pos h3] at h; cases h
      · rw [if_neg h3] at h
        by_cases h4 : validM (sumB ms ws) (sumF ms ws) = false
        · rw [if_pos h4] at h; cases h
        · refine ⟨by simpa using h1, ?_, ?_, by simpa using h4⟩
          · exact Classical.not_not.1 (fun h9 => h2 (.inl h9))
          · cases h9 : ws.any heavyB
            · rfl
            · exact absurd (.inr h9) h2
theorem cost_bd (bs fs : List Int) (s n : Int) : -5000000 ≤ costM bs fs s n ∧ costM bs fs s n ≤ 5000000 := by
  unfold costM
  split
  · omega
  · rename_i h
    have hv : validM bs fs = true := by
      cases h9 : validM bs fs
      · exact absurd (.inl h9) h
      · rfl
    obtain ⟨_, _, hp, _⟩ := valid_parts hv
    split
    · split
      · omega
      · rename_i hn
        obtain ⟨a1, a2, _, _⟩ := hp 20 (by omega)
        have := mul_bd (a := 1000) (b := 1000) (n := n) a1 a2 (by omega) (by omega)
        omega
    · split
      · omega
      · rename_i hn
        have hs : s.toNat < 26 := by
          have : ¬ (s < 0) := fun h9 => h (.inr (.inl h9))
          have : ¬ (26 ≤ s) := fun h9 => h (.inr (.inr h9))
          omega
        obtain ⟨a1, a2, a3, a4⟩ := hp s.toNat hs
        have := mul_bd (a := 4096) (b := 1000) (x := n) (by omega) (by omega) a3 a4
        omega
theorem linear_pure {m m' : List Int × List Int} {x y : Int} (h : combE [m, m'] [x, y] = 0) (s n : Int) :
    costM (sumB [m, m'] [x, y]) (sumF [m, m'] [x, y]) s n = x * costM m.1 m.2 s n + y * costM m'.1 m'.2 s n ∧ (-1000 ≤ x ∧ x ≤ 1000) ∧ (-1000 ≤ y ∧ y ≤ 1000) := by
  obtain ⟨h1, _, h3, h4⟩ := comb_zero h
  have v1 : validM m.1 m.2 = true := good_at (k := 0) h1 (by simp)
  have v2 : validM m'.1 m'.2 = true := good_at (k := 1) h1 (by simp)
  have w1 : -1000 ≤ x ∧ x ≤ 1000 := light_at (k := 0) h3 (by simp)
  have w2 : -1000 ≤ y ∧ y ≤ 1000 := light_at (k := 1) h3 (by simp)
  have eB : ∀ c, c < 26 → (sumB [m, m'] [x, y]).getD c 0 = x * m.1.getD c 0 + y * m'.1.getD c 0 := by
    intro c hc
    unfold sumB
    rw [row_getD _ _ _ hc]
    simp [fS]
  have eF : ∀ c, c < 26 → (sumF [m, m'] [x, y]).getD c 0 = x * m.2.getD c 0 + y * m'.2.getD c 0 := by
    intro c hc
    unfold sumF
    rw [row_getD _ _ _ hc]
    simp [fS]
  refine ⟨?_, w1, w2⟩
  unfold costM
  rw [h4, v1, v2]
  by_cases hs : s < 0 ∨ 26 ≤ s
  · simp [hs]
  · have hs2 : ¬ ((true = false) ∨ s < 0 ∨ 26 ≤ s) := by simp; omega
    rw [if_neg hs2, if_neg hs2, if_neg hs2]
    by_cases h20 : s = 20
    · rw [if_pos h20, if_pos h20, if_pos h20]
      split
      · simp
      · rw [eB 20 (by omega), Int.add_mul, Int.mul_assoc, Int.mul_assoc]
    · rw [if_neg h20, if_neg h20, if_neg h20]
      split
      · simp
      · rw [eB s.toNat (by omega), eF s.toNat (by omega), Int.mul_add, Int.mul_add, Int.mul_add]
        have e1 : n * (x * m.2.getD s.toNat 0) = x * (n * m.2.getD s.toNat 0) := Int.mul_left_comm _ _ _
        have e2 : n * (y * m'.2.getD s.toNat 0) = y * (n * m'.2.getD s.toNat 0) := Int.mul_left_comm _ _ _
        rw [e1, e2]
        omega

set_option maxRecDepth 100000 in
set_option maxHeartbeats 4000000 in
theorem linear_walk (v : Value) (m : List Int × List Int) (u : Value) (m' : List Int × List Int) (x y s n : Int) (w : World) (h : RdM w v m.1 m.2) (h' : RdM w u m'.1 m'.2) :
    Calls Try.prog 11 #[v, u, .int .i64 x, .int .i64 y, .int .i64 s, .int .i64 n] w fun e w' => e = .returned (.bool true) ∧ Below w.heap.size w w' := by
  have H1 := Lib.hid h
  have H2 := Lib.hid h'
  obtain ⟨b, f, rfl, hb, hf⟩ := h
  obtain ⟨b', f', rfl, hb', hf'⟩ := h'
  obtain ⟨A1, c1, rfl, _, _⟩ := hb
  obtain ⟨A2, c2, rfl, _, _⟩ := hf
  obtain ⟨A3, c3, rfl, _, _⟩ := hb'
  obtain ⟨A4, c4, rfl, _, _⟩ := hf'
  obtain ⟨n1, hn1⟩ : ∃ k, k = m.1.length := ⟨_, rfl⟩
  obtain ⟨n2, hn2⟩ : ∃ k, k = m.2.length := ⟨_, rfl⟩
  obtain ⟨n3, hn3⟩ : ∃ k, k = m'.1.length := ⟨_, rfl⟩
  obtain ⟨n4, hn4⟩ : ∃ k, k = m'.2.length := ⟨_, rfl⟩
  rw [← hn1, ← hn2] at H1 ⊢
  rw [← hn3, ← hn4] at H2 ⊢
  clear hn1 hn2 hn3 hn4
  go_enter Try.func11, Try.ntmps11
  go_wp2_with fail
  have HA := Lib.hid (show Below w.heap.size w ((w.alloc (.cells #[.slice A1 n1 c1, .slice A2 n2 c2] 28)).alloc (.cells #[.slice A3 n3 c3, .slice A4 n4 c4] 28)) from bl_alloc (bl_alloc (Below.refl _ _) _) _)
  refine (metrics_any _ [m, m'] 2 (by omega) _ (two_metric (by simp) (H1.out.below HA.out) (H2.out.below HA.out))).mono ?_
  cases hm : metB 2 [m, m']
  · rintro e w1 ⟨rfl, hb1⟩
    go_wp2_with fail
    go_ret
    exact ⟨rfl, bl_call (bl_alloc HA.out _) hb1⟩
  · rintro e w1 ⟨rfl, hb1⟩
    have G1 := Lib.hid (blk_below (blk_alloc (blk_alloc (blk_new w (.cells #[.slice A1 n1 c1, .slice A2 n2 c2] 28)) (.cells #[.slice A3 n3 c3, .slice A4 n4 c4] 28)) _) hb1)
    have G2 := Lib.hid (blk_below (blk_alloc (blk_new' (w := w.alloc (.cells #[.slice A1 n1 c1, .slice A2 n2 c2] 28)) (g := w.heap.size + 1) (by simp) (.cells #[.slice A3 n3 c3, .slice A4 n4 c4] 28)) _) hb1)
    have HB1 := Lib.hid (bl_call (bl_alloc HA.out _) hb1)
    have m0 := blk_cell G1.out 0
    have m1 := blk_cell G1.out 1
    have p0 := blk_cell G2.out 0
    have p1 := blk_cell G2.out 1
    simp at m0 m1 p0 p1
    have l1 := blk_lt G1.out
    have l2 := blk_lt G2.out
    clear hb1 hm
    go_wp2_with fail
    have HX := Lib.hid (two_metric (t := 28) (g := w1.heap.size) rfl (H1.out.below HB1.out) (H2.out.below HB1.out))
    refine (combine_any _ _ [m, m'] [x, y] _ (HX.out.below (bl_alloc (Below.refl _ _) _)) (rd_blk (blk_new' (by simp) _) rfl (by simp) (by simp) (fun j hj => by
      rcases (show j = 0 ∨ j = 1 by simp at hj; omega) with rfl | rfl <;> rfl)) (by simp)).mono ?_
    by_cases hE : combE [m, m'] [x, y] = 0
    · obtain ⟨hlin, ⟨x1, x2⟩, ⟨y1, y2⟩⟩ := linear_pure hE s n
      have eB : combB [m, m'] [x, y] = sumB [m, m'] [x, y] := by unfold combB; rw [if_pos hE]
      have eF : combF [m, m'] [x, y] = sumF [m, m'] [x, y] := by unfold combF; rw [if_pos hE]
      have T1 := fun W v hW => cost_any v (sumB [m, m'] [x, y]) (sumF [m, m'] [x, y]) s n W hW
      have T2 := fun W v hW => cost_any v m.1 m.2 s n W hW
      have T3 := fun W v hW => cost_any v m'.1 m'.2 s n W hW
      rw [hlin] at T1
      obtain ⟨t1, t2⟩ := cost_bd m.1 m.2 s n
      obtain ⟨t3, t4⟩ := cost_bd m'.1 m'.2 s n
      obtain ⟨V1, hV1⟩ : ∃ z, z = costM m.1 m.2 s n := ⟨_, rfl⟩
      obtain ⟨V2, hV2⟩ : ∃ z, z = costM m'.1 m'.2 s n := ⟨_, rfl⟩
      rw [← hV1] at T1 T2 t1 t2
      rw [← hV2] at T1 T3 t3 t4
      obtain ⟨z1, z2⟩ := mul_bd (a := 1000) (b := 5000000) x1 x2 t1 t2
      obtain ⟨z3, z4⟩ := mul_bd (a := 1000) (b := 5000000) y1 y2 t3 t4
      have z1' : (-5000000000 : Int) ≤ x * V1 := by omega
      have z2' : x * V1 ≤ (5000000000 : Int) := by omega
      have z3' : (-5000000000 : Int) ≤ y * V2 := by omega
      have z4' : y * V2 ≤ (5000000000 : Int) := by omega
      clear z1 z2 z3 z4
      have hwr : IntKind.i64.wrap (IntKind.i64.wrap (x * V1) + IntKind.i64.wrap (y * V2)) = x * V1 + y * V2 := by
        rw [IntWalk.i64_in (x * V1) (by omega), IntWalk.i64_in (y * V2) (by omega), IntWalk.i64_in _ (by omega)]
      rw [← hwr] at T1
      clear hwr
      have HT1 := Lib.hid T1
      have HT2 := Lib.hid T2
      have HT3 := Lib.hid T3
      rw [hE, eB, eF]
      clear T1 T2 T3 hE hlin eB eF hV1 hV2 z1' z2' z3' z4' t1 t2 t3 t4
      rintro e w2 ⟨r, rfl, hr, hb2⟩
      have HR := Lib.hid hr
      have HB2 := Lib.hid (bl_call (bl_alloc (bl_alloc (Below.refl _ _) _) _) hb2)
      obtain ⟨b9, f9, rfl, hx, hy⟩ := hr
      obtain ⟨A5, c5, rfl, _, _⟩ := hx
      obtain ⟨A6, c6, rfl, _, _⟩ := hy
      obtain ⟨n5, hn5⟩ : ∃ k, k = (sumB [m, m'] [x, y]).length := ⟨_, rfl⟩
      obtain ⟨n6, hn6⟩ : ∃ k, k = (sumF [m, m'] [x, y]).length := ⟨_, rfl⟩
      rw [← hn5, ← hn6] at HR ⊢
      clear hn5 hn6 hb2 m0 m1 p0 p1
      go_upto_region 6 with (fail)
      obtain ⟨W, hW⟩ : ∃ W, W = w2.alloc (.cells #[.slice A5 n5 c5, .slice A6 n6 c6] 28) := ⟨_, rfl⟩
      have HBW := Lib.hid (show Below w1.heap.size w1 W by rw [hW]; exact bl_alloc HB2.out _)
      have G3 := Lib.hid (show W.heap[w2.heap.size]? = some (.cells #[.slice A5 n5 c5, .slice A6 n6 c6] 28 (0, 0)) by rw [hW]; exact blk_new _ _)
      have HRW := Lib.hid (show RdM W (.agg #[.slice A5 n5 c5, .slice A6 n6 c6]) (sumB [m, m'] [x, y]) (sumF [m, m'] [x, y]) by rw [hW]; exact HR.out.below (bl_alloc (Below.refl _ _) _))
      rw [← hW]
      clear hW HB2 HR
      have HK := Lib.hid (show ∀ w', Below W.heap.size W w' → (w'.cell? ⟨w.heap.size, 0, none⟩ = some (.slice A1 n1 c1) ∧ w'.cell? ⟨w.heap.size, 1, none⟩ = some (.slice A2 n2 c2) ∧ w'.cell? ⟨w.heap.size + 1, 0, none⟩ = some (.slice A3 n3 c3) ∧ w'.cell? ⟨w.heap.size + 1, 1, none⟩ = some (.slice A4 n4 c4) ∧ w'.cell? ⟨w2.heap.size, 0, none⟩ = some (.slice A5 n5 c5) ∧ w'.cell? ⟨w2.heap.size, 1, none⟩ = some (.slice A6 n6 c6)) from fun w' hb =>
        ⟨blk_cell (blk_below (blk_below G1.out HBW.out) hb) 0, blk_cell (blk_below (blk_below G1.out HBW.out) hb) 1, blk_cell (blk_below (blk_below G2.out HBW.out) hb) 0, blk_cell (blk_below (blk_below G2.out HBW.out) hb) 1, blk_cell (blk_below G3.out hb) 0, blk_cell (blk_below G3.out hb) 1⟩)
      have R1 := Lib.hid (fun (W2 : World) (hb : Below W.heap.size W W2) => (H1.out.below (bl_call HB1.out HBW.out)).below hb)
      have R2 := Lib.hid (fun (W2 : World) (hb : Below W.heap.size W W2) => (H2.out.below (bl_call HB1.out HBW.out)).below hb)
      have R3 := Lib.hid (fun (W2 : World) (hb : Below W.heap.size W W2) => HRW.out.below hb)
      go_region_held3 (fun w' => w'.cell? ⟨w.heap.size, 0, none⟩ = some (.slice A1 n1 c1) ∧ w'.cell? ⟨w.heap.size, 1, none⟩ = some (.slice A2 n2 c2) ∧ w'.cell? ⟨w.heap.size + 1, 0, none⟩ = some (.slice A3 n3 c3) ∧ w'.cell? ⟨w.heap.size + 1, 1, none⟩ = some (.slice A4 n4 c4) ∧ w'.cell? ⟨w2.heap.size, 0, none⟩ = some (.slice A5 n5 c5) ∧ w'.cell? ⟨w2.heap.size, 1, none⟩ = some (.slice A6 n6 c6))
        (first
          | (refine HK.out _ ?_; repeat (first | exact Below.refl _ _ | apply bl_drew | (refine bl_call ?_ (by assumption)))))
        (first
          | (go_at_call_of 18 (Value.slice A5 n5 c5); (with_reducible refine (HT1.out _ _ ?_).mono ?_); (refine R3.out _ ?_; repeat (first | exact Below.refl _ _ | apply bl_drew | (refine bl_call ?_ (by assumption)))); rintro e v1 ⟨rfl, hv1⟩)
          | (go_at_call_of 18 (Value.slice A1 n1 c1); (with_reducible refine (HT2.out _ _ ?_).mono ?_); (refine R1.out _ ?_; repeat (first | exact Below.refl _ _ | apply bl_drew | (refine bl_call ?_ (by assumption)))); rintro e v2 ⟨rfl, hv2⟩)
          | (go_at_call_of 18 (Value.slice A3 n3 c3); (with_reducible refine (HT3.out _ _ ?_).mono ?_); (refine R2.out _ ?_; repeat (first | exact Below.refl _ _ | apply bl_drew | (refine bl_call ?_ (by assumption)))); rintro e v3 ⟨rfl, hv3⟩)
          | (go_at_call 17; refine (awake_any _).mono ?_; rintro e v7 ⟨rfl, hv7⟩))
      go_wp2_with fail
      go_ret
      exact ⟨rfl, bl_call (bl_call HB1.out HBW.out) (by repeat (first | exact Below.refl _ _ | apply bl_drew | (refine bl_call ?_ (by assumption))))⟩
    · rintro e w2 ⟨r, rfl, hr, hb2⟩
      have HB2 := Lib.hid (bl_call (bl_call HB1.out (bl_alloc (bl_alloc (Below.refl _ _) _) _)) hb2)
      obtain ⟨b9, f9, rfl, hx, hy⟩ := hr
      obtain ⟨E, hEE⟩ : ∃ z, z = combE [m, m'] [x, y] := ⟨_, rfl⟩
      rw [← hEE] at hE ⊢
      obtain ⟨A5, c5, rfl, _, _⟩ := hx
      obtain ⟨A6, c6, rfl, _, _⟩ := hy
      have hE2 : (E != 0) = true := by simpa using hE
      clear hEE hb2
      go_wp2_with fail
      all_goals first
        | (exfalso; omega)
        | (refine (awake_any _).mono ?_
           rintro e w3 ⟨rfl, hb3⟩
           go_wp2_with fail
           go_ret
           exact ⟨rfl, bl_call (bl_alloc HB2.out _) hb3⟩)
theorem linear_row (v : Value) (m : List Int × List Int) (u : Value) (m' : List Int × List Int) (x y s n : Int) (w : World) (h : RdM w v m.1 m.2) (h' : RdM w u m'.1 m'.2) :
    Calls Try.prog 11 #[v, u, .int .i64 x, .int .i64 y, .int .i64 s, .int .i64 n] w fun e w' => e = .returned (.bool true) ∧ Below w.heap.size w w' := linear_walk v m u m' x y s n w h h'
end Go.Proofs.Ytbfgnpbkgegegaa
