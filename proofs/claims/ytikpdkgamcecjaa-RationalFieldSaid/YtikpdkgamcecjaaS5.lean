/- Walks: Integral, Sign, Neg, Abs of the reference. -/
import Derived.Test.YtikpdkgamcecjaaS4
namespace Go.Proofs.Ytikpdkgamcecjaa
open Go.RowKit
set_option linter.unusedSimpArgs false
set_option linter.unusedVariables false

set_option maxRecDepth 100000 in
set_option maxHeartbeats 4000000 in
theorem rneg_any (ok : Nat → Prop) (v : Value) (r : Raw) (w : World) (hok : ∀ b, w.heap.size ≤ b → ok b) (h : RdR w v r) (g : Good 1000000 r) :
    Calls Try.prog 40 #[v] w fun e w' => ∃ z, e = .returned z ∧ RdRaw w' ok z (raw (-(qv r))) ∧ Below w.heap.size w w' := by
  obtain ⟨n, d, rfl, hn, hd⟩ := h
  obtain ⟨neg, xs, ys⟩ := r
  obtain ⟨g1, g2, g3, g4⟩ := g
  simp only at hn hd g1 g2 g3 g4 ⊢
  have HQ := Lib.hid (show mkRat (sg (!neg) (val xs).toNat) (val ys).toNat = -(qv ⟨neg, xs, ys⟩) from neg_qv neg _ _)
  have HBU := Lib.hid (fun W hok h1 h2 => build_any (fun x => ok x ∧ x ≠ w.heap.size + 1) (!neg) n d xs ys W hok h1 h2 g1 g2 g3 g4)
  rw [HQ.out] at HBU
  obtain ⟨Z, hZ⟩ : ∃ Z, Z = -(qv ⟨neg, xs, ys⟩) := ⟨_, rfl⟩
  rw [← hZ] at HBU ⊢
  clear hZ HQ
  have HN := Lib.hid hn.now
  have HD := Lib.hid hd.now
  have HOK := Lib.hid hok
  obtain ⟨A1, c1, rfl, _, _⟩ := hn.len
  obtain ⟨A2, c2, rfl, _, _⟩ := hd.len
  clear hn hd hok g1 g2
  go_enter Try.func40, Try.ntmps40
  go_wp2_with fail
  have HA := Lib.hid (show Below w.heap.size w ((w.alloc (.cells #[.bool neg, .slice A1 xs.length c1, .slice A2 ys.length c2] 24)).alloc (.cells #[.bool false, .slice none 0 0, .slice none 0 0] 24)) from bl_alloc (bl_alloc (Below.refl _ _) _) _)
  refine (HBU.out _ ?_ (HN.out.below HA.out) (HD.out.below HA.out)).mono ?_
  · intro b hb
    simp at hb
    exact ⟨HOK.out b (by omega), by omega⟩
  rintro e w1 ⟨z, rfl, ⟨n3, d3, rfl, hn3, hd3⟩, hb1⟩
  have HN3 := Lib.hid hn3
  have HD3 := Lib.hid hd3
  have g := blk_below (blk_new' (w := w.alloc (.cells #[.bool neg, .slice A1 xs.length c1, .slice A2 ys.length c2] 24)) (g := w.heap.size + 1) (by simp) (.cells #[.bool false, .slice none 0 0, .slice none 0 0] 24)) hb1
  have m0 := blk_cell g 0
  have m1 := blk_cell g 1
  have m2 := blk_cell g 2
  have mf := blk_frozen g
  simp at m0 m1 m2
  have HB := Lib.hid (bl_call HA.out hb1)
  obtain ⟨A5, c5, rfl, _, _⟩ := hn3.len
  obtain ⟨A6, c6, rfl, _, _⟩ := hd3.len
  clear hn3 hd3 hb1 g
  go_wp2_with fail
  refine bodyPost_ret (v := .agg #[.bool (raw Z).neg, .slice A5 (raw Z).num.length c5, .slice A6 (raw Z).den.length c6]) (by simp [results, Try.results40, go_sem, m0, m1, m2]) rfl ⟨_, rfl, ?_, ?_⟩
  · refine ⟨_, _, rfl, ?_, ?_⟩
    · exact (((HN3.out.set (fun h => h.2 rfl) _).set (fun h => h.2 rfl) _).set (fun h => h.2 rfl) _).mono (fun b _ h => h.1)
    · exact (((HD3.out.set (fun h => h.2 rfl) _).set (fun h => h.2 rfl) _).set (fun h => h.2 rfl) _).mono (fun b _ h => h.1)
  · exact bl_set (bl_set (bl_set HB.out (by simp) _) (by simp) _) (by simp) _
set_option maxRecDepth 100000 in
set_option maxHeartbeats 4000000 in
theorem rabs_any (ok : Nat → Prop) (v : Value) (r : Raw) (w : World) (hok : ∀ b, w.heap.size ≤ b → ok b) (h : RdR w v r) (g : Good 1000000 r) :
    Calls Try.prog 42 #[v] w fun e w' => ∃ z, e = .returned z ∧ RdRaw w' ok z (raw (rabs (qv r))) ∧ Below w.heap.size w w' := by
  obtain ⟨n, d, rfl, hn, hd⟩ := h
  obtain ⟨neg, xs, ys⟩ := r
  obtain ⟨g1, g2, g3, g4⟩ := g
  simp only at hn hd g1 g2 g3 g4 ⊢
  have HQ := Lib.hid (show mkRat (sg false (val xs).toNat) (val ys).toNat = rabs (qv ⟨neg, xs, ys⟩) from abs_qv neg _ _)
  have HBU := Lib.hid (fun W hok h1 h2 => build_any (fun x => ok x ∧ x ≠ w.heap.size + 1) false n d xs ys W hok h1 h2 g1 g2 g3 g4)
  rw [HQ.out] at HBU
  obtain ⟨Z, hZ⟩ : ∃ Z, Z = rabs (qv ⟨neg, xs, ys⟩) := ⟨_, rfl⟩
  rw [← hZ] at HBU ⊢
  clear hZ HQ
  have HN := Lib.hid hn.now
  have HD := Lib.hid hd.now
  have HOK := Lib.hid hok
  obtain ⟨A1, c1, rfl, _, _⟩ := hn.len
  obtain ⟨A2, c2, rfl, _, _⟩ := hd.len
  clear hn hd hok g1 g2
  go_enter Try.func42, Try.ntmps42
  go_wp2_with fail
  have HA := Lib.hid (show Below w.heap.size w ((w.alloc (.cells #[.bool neg, .slice A1 xs.length c1, .slice A2 ys.length c2] 24)).alloc (.cells #[.bool false, .slice none 0 0, .slice none 0 0] 24)) from bl_alloc (bl_alloc (Below.refl _ _) _) _)
  refine (HBU.out _ ?_ (HN.out.below HA.out) (HD.out.below HA.out)).mono ?_
  · intro b hb
    simp at hb
    exact ⟨HOK.out b (by omega), by omega⟩
  rintro e w1 ⟨z, rfl, ⟨n3, d3, rfl, hn3, hd3⟩, hb1⟩
  have HN3 := Lib.hid hn3
  have HD3 := Lib.hid hd3
  have g := blk_below (blk_new' (w := w.alloc (.cells #[.bool neg, .slice A1 xs.length c1, .slice A2 ys.length c2] 24)) (g := w.heap.size + 1) (by simp) (.cells #[.bool false, .slice none 0 0, .slice none 0 0] 24)) hb1
  have m0 := blk_cell g 0
  have m1 := blk_cell g 1
  have m2 := blk_cell g 2
  have mf := blk_frozen g
  simp at m0 m1 m2
  have HB := Lib.hid (bl_call HA.out hb1)
  obtain ⟨A5, c5, rfl, _, _⟩ := hn3.len
  obtain ⟨A6, c6, rfl, _, _⟩ := hd3.len
  clear hn3 hd3 hb1 g
  go_wp2_with fail
  refine bodyPost_ret (v := .agg #[.bool (raw Z).neg, .slice A5 (raw Z).num.length c5, .slice A6 (raw Z).den.length c6]) (by simp [results, Try.results42, go_sem, m0, m1, m2]) rfl ⟨_, rfl, ?_, ?_⟩
  · refine ⟨_, _, rfl, ?_, ?_⟩
    · exact (((HN3.out.set (fun h => h.2 rfl) _).set (fun h => h.2 rfl) _).set (fun h => h.2 rfl) _).mono (fun b _ h => h.1)
    · exact (((HD3.out.set (fun h => h.2 rfl) _).set (fun h => h.2 rfl) _).set (fun h => h.2 rfl) _).mono (fun b _ h => h.1)
  · exact bl_set (bl_set (bl_set HB.out (by simp) _) (by simp) _) (by simp) _
set_option maxRecDepth 100000 in
set_option maxHeartbeats 4000000 in
theorem rsign_any (v : Value) (r : Raw) (w : World) (h : RdR w v r) (g : Good 1000000 r) :
    Calls Try.prog 53 #[v] w fun e w' => e = .returned (.int .i64 (sgnZ (qv r))) ∧ Below w.heap.size w w' := by
  have HR := Lib.hid h
  have GR := Lib.hid g
  obtain ⟨n1, d1, rfl, hn1, hd1⟩ := h
  obtain ⟨A1, c1, rfl, _, _⟩ := hn1.len
  obtain ⟨A2, c2, rfl, _, _⟩ := hd1.len
  clear hn1 hd1 g
  go_enter Try.func53, Try.ntmps53
  go_wp2_with fail
  have HA := Lib.hid (show Below w.heap.size w ((w.alloc (.cells #[.bool r.neg, .slice A1 r.num.length c1, .slice A2 r.den.length c2] 24))) from bl_alloc (Below.refl _ _) _)
  refine (rcanon_any (fun _ => True) _ r _ ?_ (HR.out.below HA.out) (GR.out.le (by omega))).mono ?_
  · intro b hb
    simp at hb
    trivial
  rintro e w1 ⟨z1, rfl, hz1, hb1⟩
  have HZ := Lib.hid hz1.bd
  have HB := Lib.hid (bl_call HA.out hb1)
  have HG := Lib.hid (blk_below (blk_new w (.cells #[.bool r.neg, .slice A1 r.num.length c1, .slice A2 r.den.length c2] 24)) hb1)
  have m0 := blk_cell HG.out 0
  have m1 := blk_cell HG.out 1
  have m2 := blk_cell HG.out 2
  have mf := blk_frozen HG.out
  have mz := blk_lt HG.out
  simp at m0 m1 m2
  obtain ⟨n3, d3, rfl, hn3, hd3⟩ := hz1
  obtain ⟨A3, c3, rfl, _, _⟩ := hn3.len
  obtain ⟨A4, c4, rfl, _, _⟩ := hd3.len
  clear hn3 hd3 hb1
  have HE := Lib.hid (show (raw (qv r)).num.length = 0 ↔ (qv r).num = 0 by
    show (limbs (qv r).num.natAbs).length = 0 ↔ _
    rw [List.length_eq_zero_iff, limbs_eq_nil]; omega)
  have HN := Lib.hid (show (raw (qv r)).neg = decide ((qv r).num < 0) from rfl)
  have HS := Lib.hid (show sgnZ (qv r) = if (qv r).num = 0 then 0 else if (qv r).num < 0 then -1 else 1 from rfl)
  obtain ⟨k, hk⟩ : ∃ k, k = (raw (qv r)).num.length := ⟨_, rfl⟩
  obtain ⟨b, hbb⟩ : ∃ b, b = (raw (qv r)).neg := ⟨_, rfl⟩
  rw [← hk] at HE HZ ⊢
  rw [← hbb] at HN HZ ⊢
  clear hk hbb
  by_cases h0 : (qv r).num = 0
  · obtain rfl : k = 0 := HE.out.2 h0
    rw [if_pos h0] at HS
    go_wp2
    all_goals try (exfalso; omega)
    go_ret
    exact ⟨by rw [HS.out]; rfl, bl_set (bl_set (bl_set HB.out (Nat.le_refl _) _) (Nat.le_refl _) _) (Nat.le_refl _) _⟩
  · have hk0 : ((k : Int) == 0) = false := by simp; exact fun e => h0 (HE.out.1 e)
    rw [if_neg h0] at HS
    cases b
    · have h1 : ¬ (qv r).num < 0 := by have := HN.out; simpa using this.symm
      rw [if_neg h1] at HS
      clear h0 h1
      go_wp2
      all_goals try (exfalso; omega)
      go_ret
      exact ⟨by rw [HS.out]; rfl, bl_set (bl_set (bl_set HB.out (Nat.le_refl _) _) (Nat.le_refl _) _) (Nat.le_refl _) _⟩
    · have h1 : (qv r).num < 0 := by have := HN.out; simpa using this.symm
      rw [if_pos h1] at HS
      clear h0 h1
      go_wp2
      all_goals try (exfalso; omega)
      go_ret
      exact ⟨by rw [HS.out]; rfl, bl_set (bl_set (bl_set HB.out (Nat.le_refl _) _) (Nat.le_refl _) _) (Nat.le_refl _) _⟩
set_option maxRecDepth 100000 in
set_option maxHeartbeats 4000000 in
theorem rintegral_any (v : Value) (r : Raw) (w : World) (h : RdR w v r) (g : Good 1000000 r) :
    Calls Try.prog 51 #[v] w fun e w' => e = .returned (.bool (decide ((qv r).den = 1))) ∧ Below w.heap.size w w' := by
  have HR := Lib.hid h
  have GR := Lib.hid g
  obtain ⟨n1, d1, rfl, hn1, hd1⟩ := h
  obtain ⟨A1, c1, rfl, _, _⟩ := hn1.len
  obtain ⟨A2, c2, rfl, _, _⟩ := hd1.len
  clear hn1 hd1 g
  go_enter Try.func51, Try.ntmps51
  go_wp2_with fail
  have HA := Lib.hid (show Below w.heap.size w ((w.alloc (.cells #[.bool r.neg, .slice A1 r.num.length c1, .slice A2 r.den.length c2] 24))) from bl_alloc (Below.refl _ _) _)
  refine (rcanon_any (fun x => x ≠ w.heap.size) _ r _ ?_ (HR.out.below HA.out) (GR.out.le (by omega))).mono ?_
  · intro b hb
    simp at hb
    omega
  rintro e w1 ⟨z1, rfl, hz1, hb1⟩
  have HZ := Lib.hid hz1.bd
  have HB := Lib.hid (bl_call HA.out hb1)
  have HG := Lib.hid (blk_below (blk_new w (.cells #[.bool r.neg, .slice A1 r.num.length c1, .slice A2 r.den.length c2] 24)) hb1)
  have m0 := blk_cell HG.out 0
  have m1 := blk_cell HG.out 1
  have m2 := blk_cell HG.out 2
  have mf := blk_frozen HG.out
  have mz := blk_lt HG.out
  simp at m0 m1 m2
  obtain ⟨n3, d3, rfl, hn3, hd3⟩ := hz1
  obtain ⟨A3, c3, rfl, _, _⟩ := hn3.len
  have HD := Lib.hid (show ∀ a b c : Value, Rd .u32 (((w1.setCell ⟨w.heap.size, 0, none⟩ a).setCell ⟨w.heap.size, 1, none⟩ b).setCell ⟨w.heap.size, 2, none⟩ c) d3 (limbs (qv r).den) from fun a b c => (((hd3.set (fun h => h rfl) a).set (fun h => h rfl) b).set (fun h => h rfl) c).now)
  obtain ⟨A4, c4, rfl, _, _⟩ := hd3.len
  have HL := Lib.hid (limbs_is_one (qv r).den)
  clear hn3 hd3 hb1 HZ
  go_upto_region 2 with (fail)
  obtain ⟨W, hW⟩ : ∃ W, W = ((w1.setCell ⟨w.heap.size, 0, none⟩ (.bool (raw (qv r)).neg)).setCell ⟨w.heap.size, 1, none⟩ (.slice A3 (raw (qv r)).num.length c3)).setCell ⟨w.heap.size, 2, none⟩ (.slice A4 (raw (qv r)).den.length c4) := ⟨_, rfl⟩
  have hd : Rd .u32 W (.slice A4 (raw (qv r)).den.length c4) (limbs (qv r).den) := by rw [hW]; exact HD.out _ _ _
  have G9 := blk_set3 HG.out (.bool (raw (qv r)).neg) (.slice A3 (raw (qv r)).num.length c3) (.slice A4 (raw (qv r)).den.length c4)
  have HBW := Lib.hid (show Below w.heap.size w W by rw [hW]; exact bl_set (bl_set (bl_set HB.out (Nat.le_refl _) _) (Nat.le_refl _) _) (Nat.le_refl _) _)
  rw [← hW] at G9 ⊢
  have p2 := blk_cell G9 2
  simp at p2
  obtain ⟨ys, hys⟩ : ∃ ys, ys = limbs (qv r).den := ⟨_, rfl⟩
  rw [← hys] at HL hd
  have hlen : (raw (qv r)).den.length = ys.length := by rw [hys]; rfl
  rw [hlen] at hd p2 ⊢
  obtain ⟨_, _, e9, _, hx⟩ := hd
  injection e9 with e91 e92 e93
  subst e91; subst e93
  have HC := Lib.hid hx
  clear hx e92 hW hys hlen m0 m1 m2 mf mz HD HG G9
  by_cases h1 : ys.length = 1
  · obtain ⟨ad, rfl, hcell⟩ := HC.out.resolve_left (by rintro rfl; simp at h1)
    have d0 : W.cell? (ad.add 0) = some (.int .u32 (ys.getD 0 0)) := hcell 0 (by omega)
    have d1 : W.cell? ad = some (.int .u32 (ys.getD 0 0)) := by
      have e9 : ad.add 0 = ad := by unfold Addr.add; simp
      rw [e9] at d0; exact d0
    obtain ⟨x, hx⟩ : ∃ z, z = ys.getD 0 0 := ⟨_, rfl⟩
    rw [← hx] at d1 HL
    rw [h1] at p2 HL ⊢
    clear hx hcell d0 h1
    by_cases hx1 : x = 1
    · subst hx1
      go_wp2
      go_ret
      exact ⟨by rw [HL.out]; rfl, HBW.out⟩
    · go_wp2
      all_goals try (exfalso; omega)
      go_ret
      exact ⟨by rw [HL.out]; simp [hx1], HBW.out⟩
  · obtain ⟨k, hk⟩ : ∃ k, k = ys.length := ⟨_, rfl⟩
    rw [← hk] at h1 p2 HL ⊢
    have h2 : ((k : Int) == 1) = false := by simp; omega
    go_wp2
    all_goals try (exfalso; omega)
    go_ret
    exact ⟨by rw [HL.out]; simp [h1], HBW.out⟩
end Go.Proofs.Ytikpdkgamcecjaa
