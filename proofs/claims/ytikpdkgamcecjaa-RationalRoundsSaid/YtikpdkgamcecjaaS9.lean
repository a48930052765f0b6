/- Walks: Floor and Ceil of both sides. -/
import Derived.Test.YtikpdkgamcecjaaT1
import Derived.Test.YtikpdkgamcecjaaN13
namespace Go.Proofs.Ytikpdkgamcecjaa
open Go.RowKit
set_option linter.unusedSimpArgs false
set_option linter.unusedVariables false

theorem good_flr {L : Nat} {q : Rat} (h : Good L (raw q)) : Good (L + 1) (raw (flr q)) := by
  obtain ⟨h1, h2⟩ := good_len h
  rw [← flr_sg q]
  refine good_mk (by omega) ?_ ?_
  · rw [natAbs_sg]
    refine limbs_len_add _ _ L (Nat.le_trans (limbs_len_div _ _) h1) ?_
    split
    · rw [limbs_one]
      have h3 : (limbs q.den).length ≠ 0 := fun e => q.den_nz (limbs_eq_nil.1 (List.eq_nil_of_length_eq_zero e))
      simp; omega
    · rw [limbs_zero]; simp
  · rw [limbs_one]; simp
set_option maxRecDepth 100000 in
set_option maxHeartbeats 4000000 in
theorem floor_any (ok : Nat → Prop) (v : Value) (r : Raw) (w : World) (hok : ∀ b, w.heap.size ≤ b → ok b) (h : RdR w v r) (g : Good 500000 r) :
    Calls Try.prog 32 #[v] w fun e w' => ∃ z, e = .returned z ∧ RdRaw w' ok z (raw (flr (qv r))) ∧ Below w.heap.size w w' := by
  have HR := Lib.hid h
  have GR := Lib.hid g
  obtain ⟨n1, d1, rfl, hn1, hd1⟩ := h
  obtain ⟨A1, c1, rfl, _, _⟩ := hn1.len
  obtain ⟨A2, c2, rfl, _, _⟩ := hd1.len
  clear hn1 hd1 g
  go_enter Try.func32, Try.ntmps32
  go_wp2_with fail
  have HA := Lib.hid (show Below w.heap.size w ((w.alloc (.cells #[.bool r.neg, .slice A1 r.num.length c1, .slice A2 r.den.length c2] 24)).alloc (.cells #[.bool false, .slice none 0 0, .slice none 0 0] 24)) from bl_alloc (bl_alloc (Below.refl _ _) _) _)
  refine (canon_any (fun x => ok x ∧ x ≠ w.heap.size + 1) _ r _ ?_ (HR.out.below HA.out) (GR.out.le (by omega))).mono ?_
  · intro b hb
    simp at hb
    exact ⟨hok b (by omega), by omega⟩
  rintro e w1 ⟨z1, rfl, hz1, hb1⟩
  have HZ := Lib.hid hz1.bd
  have HB := Lib.hid (bl_call HA.out hb1)
  have HG := Lib.hid (blk_below (blk_new' (w := w.alloc (.cells #[.bool r.neg, .slice A1 r.num.length c1, .slice A2 r.den.length c2] 24)) (g := w.heap.size + 1) (by simp) (.cells #[.bool false, .slice none 0 0, .slice none 0 0] 24)) hb1)
  have HGA := Lib.hid (blk_below (blk_alloc (blk_new w (.cells #[.bool r.neg, .slice A1 r.num.length c1, .slice A2 r.den.length c2] 24)) (.cells #[.bool false, .slice none 0 0, .slice none 0 0] 24)) hb1)
  obtain ⟨lq, lw⟩ := raw_len GR.out
  have HOK := Lib.hid hok
  obtain ⟨n3, d3, rfl, hn3, hd3⟩ := hz1
  have HN := Lib.hid hn3
  have HD := Lib.hid hd3
  obtain ⟨A3, c3, rfl, _, _⟩ := hn3.len
  obtain ⟨A4, c4, rfl, _, _⟩ := hd3.len
  have HF := Lib.hid (flr_sg (qv r))
  have HN0 := Lib.hid (show (raw (qv r)).neg = decide ((qv r).num < 0) from rfl)
  have hd0 : (qv r).den ≠ 0 := (qv r).den_nz
  have LQ := Lib.hid (show (limbs (qv r).num.natAbs).length ≤ 500001 from lq)
  have LW := Lib.hid (show (limbs (qv r).den).length ≤ 500001 from lw)
  rw [← HN0.out] at HF
  obtain ⟨neg, hneg⟩ : ∃ n, n = (raw (qv r)).neg := ⟨_, rfl⟩
  obtain ⟨k3, hk3⟩ : ∃ k, k = (raw (qv r)).num.length := ⟨_, rfl⟩
  obtain ⟨k4, hk4⟩ : ∃ k, k = (raw (qv r)).den.length := ⟨_, rfl⟩
  rw [← hneg, ← hk3, ← hk4]
  rw [← hneg] at HF
  rw [← hk3] at HN
  rw [← hk4] at HD
  have HN2 := Lib.hid (show Rdf .u32 w1 _ (.slice A3 k3 c3) (limbs (qv r).num.natAbs) from HN.out)
  have HD2 := Lib.hid (show Rdf .u32 w1 _ (.slice A4 k4 c4) (limbs (qv r).den) from HD.out)
  obtain ⟨a, ha⟩ : ∃ a, a = (qv r).num.natAbs := ⟨_, rfl⟩
  obtain ⟨b, hbq⟩ : ∃ b, b = (qv r).den := ⟨_, rfl⟩
  rw [← ha] at HN2 HF LQ
  rw [← hbq] at HD2 HF LW hd0
  clear hn3 hd3 hb1 HN HD HZ lq lw hneg hk3 hk4 ha hbq HN0 hok
  have m0 := blk_cell HG.out 0
  have m1 := blk_cell HG.out 1
  have m2 := blk_cell HG.out 2
  have mf := blk_frozen HG.out
  have mz := blk_lt HG.out
  simp at m0 m1 m2
  have HN9 := Lib.hid (HN2.out.below (bl_alloc (Below.refl _ _) (.cells #[.bool neg, .slice A3 k3 c3, .slice A4 k4 c4] 24)))
  have HD9 := Lib.hid (HD2.out.below (bl_alloc (Below.refl _ _) (.cells #[.bool neg, .slice A3 k3 c3, .slice A4 k4 c4] 24)))
  go_wp2_with fail
  refine (div_any (fun x => ok x ∧ x ≠ w.heap.size + 1) _ _ a b _ ?_ HN9.out HD9.out hd0 (by have := LQ.out; omega)).mono ?_
  · intro b hb
    have h8 := HB.out.size
    simp at hb
    exact ⟨HOK.out b (by omega), by omega⟩
  rintro e w2 ⟨zq, zr, rfl, hq, hr, hb2⟩
  have HQ := Lib.hid hq
  have HRR := Lib.hid hr.now
  have GC2 := Lib.hid (blk_below (blk_new w1 (.cells #[.bool neg, .slice A3 k3 c3, .slice A4 k4 c4] 24)) hb2)
  have GR3 := Lib.hid (blk_below (blk_alloc HG.out _) hb2)
  have HB2 := Lib.hid (bl_call (bl_alloc HB.out _) hb2)
  obtain ⟨A5, c5, rfl, _, _⟩ := hq.len
  obtain ⟨A6, c6, rfl, _, _⟩ := hr.len
  clear hq hr hb2 m0 m1 m2 mf mz HN9 HD9 HN2 HD2
  have HL0 := Lib.hid (show (limbs (a % b)).length = 0 ↔ a % b = 0 by rw [List.length_eq_zero_iff, limbs_eq_nil])
  have LQ2 := Lib.hid (show (limbs (a / b)).length ≤ 500001 from Nat.le_trans (limbs_len_div a b) LQ.out)
  obtain ⟨kq, hkq⟩ : ∃ k, k = (limbs (a / b)).length := ⟨_, rfl⟩
  obtain ⟨kr, hkr⟩ : ∃ k, k = (limbs (a % b)).length := ⟨_, rfl⟩
  rw [← hkq] at HQ ⊢
  rw [← hkr] at HRR HL0 ⊢
  clear hkq hkr HRR
  have m0 := blk_cell GC2.out 0
  have m1 := blk_cell GC2.out 1
  have m2 := blk_cell GC2.out 2
  have mz := blk_lt GC2.out
  have mz2 := blk_lt GR3.out
  simp at m0 m1 m2
  cases neg
  · have HQE := Lib.hid (show mkRat (sg false (a / b)) 1 = flr (qv r) by rw [← HF.out]; simp)
    have LQ3 := LQ2
    go_wp2_with fail
    refine (made_any (fun x => ok x ∧ x ≠ w.heap.size + 1) false _ _ (a / b) 1 _ ?_ (HQ.out.below (bl_alloc (Below.refl _ _) _)).now (by rw [limbs_one]; exact (one_limb (ok := fun _ => True) _ _ _ rfl trivial).now) (by omega) (by have := LQ3.out; omega) (by rw [limbs_one]; simp)).mono ?_
    · intro b hb
      have h8 := HB2.out.size
      have h9 := blk_lt GR3.out
      simp at hb
      exact ⟨HOK.out b (by omega), by omega⟩
    rw [HQE.out]
    rintro e w9 ⟨r3, rfl, ⟨n9, d9, rfl, hn9, hd9⟩, hv9⟩
    have HN9 := Lib.hid hn9
    have HD9 := Lib.hid hd9
    have HBV := Lib.hid (bl_call (bl_alloc HB2.out _) hv9)
    have g9 := blk_below (blk_alloc GR3.out _) hv9
    have u0 := blk_cell g9 0
    have u1 := blk_cell g9 1
    have u2 := blk_cell g9 2
    have uf := blk_frozen g9
    simp at u0 u1 u2
    obtain ⟨A11, c11, rfl, l7, l8⟩ := hn9.len
    obtain ⟨A12, c12, rfl, l9, l10⟩ := hd9.len
    clear hn9 hd9 hv9 g9
    go_wp2_with fail
    refine bodyPost_ret (v := .agg #[.bool (raw (flr (qv r))).neg, .slice A11 (raw (flr (qv r))).num.length c11, .slice A12 (raw (flr (qv r))).den.length c12]) (by simp [results, Try.results32, go_sem, u0, u1, u2]) rfl ⟨_, rfl, ?_, ?_⟩
    · refine ⟨_, _, rfl, ?_, ?_⟩
      · exact (((HN9.out.set (fun h => h.2 rfl) _).set (fun h => h.2 rfl) _).set (fun h => h.2 rfl) _).mono (fun b _ h => h.1)
      · exact (((HD9.out.set (fun h => h.2 rfl) _).set (fun h => h.2 rfl) _).set (fun h => h.2 rfl) _).mono (fun b _ h => h.1)
    · exact bl_set (bl_set (bl_set HBV.out (by simp <;> omega) _) (by simp <;> omega) _) (by simp <;> omega) _
  · by_cases h0 : a % b = 0
    · have HQE := Lib.hid (show mkRat (sg true (a / b)) 1 = flr (qv r) by rw [← HF.out]; simp [h0])
      have LQ3 := LQ2
      obtain rfl : kr = 0 := HL0.out.2 h0
      clear h0
      go_wp2_with fail
      refine (made_any (fun x => ok x ∧ x ≠ w.heap.size + 1) true _ _ (a / b) 1 _ ?_ (HQ.out.below (bl_alloc (Below.refl _ _) _)).now (by rw [limbs_one]; exact (one_limb (ok := fun _ => True) _ _ _ rfl trivial).now) (by omega) (by have := LQ3.out; omega) (by rw [limbs_one]; simp)).mono ?_
      · intro b hb
        have h8 := HB2.out.size
        have h9 := blk_lt GR3.out
        simp at hb
        exact ⟨HOK.out b (by omega), by omega⟩
      rw [HQE.out]
      rintro e w9 ⟨r3, rfl, ⟨n9, d9, rfl, hn9, hd9⟩, hv9⟩
      have HN9 := Lib.hid hn9
      have HD9 := Lib.hid hd9
      have HBV := Lib.hid (bl_call (bl_alloc HB2.out _) hv9)
      have g9 := blk_below (blk_alloc GR3.out _) hv9
      have u0 := blk_cell g9 0
      have u1 := blk_cell g9 1
      have u2 := blk_cell g9 2
      have uf := blk_frozen g9
      simp at u0 u1 u2
      obtain ⟨A11, c11, rfl, l7, l8⟩ := hn9.len
      obtain ⟨A12, c12, rfl, l9, l10⟩ := hd9.len
      clear hn9 hd9 hv9 g9
      go_wp2_with fail
      refine bodyPost_ret (v := .agg #[.bool (raw (flr (qv r))).neg, .slice A11 (raw (flr (qv r))).num.length c11, .slice A12 (raw (flr (qv r))).den.length c12]) (by simp [results, Try.results32, go_sem, u0, u1, u2]) rfl ⟨_, rfl, ?_, ?_⟩
      · refine ⟨_, _, rfl, ?_, ?_⟩
        · exact (((HN9.out.set (fun h => h.2 rfl) _).set (fun h => h.2 rfl) _).set (fun h => h.2 rfl) _).mono (fun b _ h => h.1)
        · exact (((HD9.out.set (fun h => h.2 rfl) _).set (fun h => h.2 rfl) _).set (fun h => h.2 rfl) _).mono (fun b _ h => h.1)
      · exact bl_set (bl_set (bl_set HBV.out (by simp <;> omega) _) (by simp <;> omega) _) (by simp <;> omega) _
    · have HQE := Lib.hid (show mkRat (sg true (a / b + 1)) 1 = flr (qv r) by rw [← HF.out]; simp [h0])
      have LQ3 := Lib.hid (show (limbs (a / b + 1)).length ≤ 500002 from limbs_len_add (a / b) 1 500001 LQ2.out (by rw [limbs_one]; simp))
      have hkr0 : (0 : Int) < (kr : Int) := by have : kr ≠ 0 := fun e => h0 (HL0.out.1 e); omega
      clear h0
      have HQ' := Lib.hid (HQ.out.below (bl_alloc (Below.refl _ _) (.cells #[.int .u32 1] 43)))
      go_wp2_with fail
      refine (add_nat (fun x => ok x ∧ x ≠ w.heap.size + 1) _ _ (a / b) 1 _ ?_ HQ'.out.now (by rw [limbs_one]; exact (one_limb (ok := fun _ => True) _ _ _ rfl trivial).now) (by have := LQ2.out; omega) (by rw [limbs_one]; simp)).mono ?_
      · intro b hb
        have h8 := HB2.out.size
        have h9 := blk_lt GR3.out
        simp at hb
        exact ⟨HOK.out b (by omega), by omega⟩
      rintro e w4 ⟨z4, rfl, hz4, hb4⟩
      have HQ4 := Lib.hid hz4
      have GC4 := Lib.hid (blk_below (blk_alloc GC2.out _) hb4)
      have GR4 := Lib.hid (blk_below (blk_alloc GR3.out _) hb4)
      have HB4 := Lib.hid (bl_call (bl_alloc HB2.out _) hb4)
      obtain ⟨A7, c7, rfl, _, _⟩ := hz4.len
      clear hz4 hb4 m0 m1 m2 mz mz2
      have m0 := blk_cell GC4.out 0
      have m1 := blk_cell GC4.out 1
      have m2 := blk_cell GC4.out 2
      have mz := blk_lt GC4.out
      have mz2 := blk_lt GR4.out
      simp at m0 m1 m2
      go_wp2_with fail
      refine (made_any (fun x => ok x ∧ x ≠ w.heap.size + 1) true _ _ (a / b + 1) 1 _ ?_ (HQ4.out.below (bl_alloc (Below.refl _ _) _)).now (by rw [limbs_one]; exact (one_limb (ok := fun _ => True) _ _ _ rfl trivial).now) (by omega) (by have := LQ3.out; omega) (by rw [limbs_one]; simp)).mono ?_
      · intro b hb
        have h8 := HB4.out.size
        have h9 := blk_lt GR4.out
        simp at hb
        exact ⟨HOK.out b (by omega), by omega⟩
      rw [HQE.out]
      rintro e w9 ⟨r3, rfl, ⟨n9, d9, rfl, hn9, hd9⟩, hv9⟩
      have HN9 := Lib.hid hn9
      have HD9 := Lib.hid hd9
      have HBV := Lib.hid (bl_call (bl_alloc HB4.out _) hv9)
      have g9 := blk_below (blk_alloc GR4.out _) hv9
      have u0 := blk_cell g9 0
      have u1 := blk_cell g9 1
      have u2 := blk_cell g9 2
      have uf := blk_frozen g9
      simp at u0 u1 u2
      obtain ⟨A11, c11, rfl, l7, l8⟩ := hn9.len
      obtain ⟨A12, c12, rfl, l9, l10⟩ := hd9.len
      clear hn9 hd9 hv9 g9
      go_wp2_with fail
      refine bodyPost_ret (v := .agg #[.bool (raw (flr (qv r))).neg, .slice A11 (raw (flr (qv r))).num.length c11, .slice A12 (raw (flr (qv r))).den.length c12]) (by simp [results, Try.results32, go_sem, u0, u1, u2]) rfl ⟨_, rfl, ?_, ?_⟩
      · refine ⟨_, _, rfl, ?_, ?_⟩
        · exact (((HN9.out.set (fun h => h.2 rfl) _).set (fun h => h.2 rfl) _).set (fun h => h.2 rfl) _).mono (fun b _ h => h.1)
        · exact (((HD9.out.set (fun h => h.2 rfl) _).set (fun h => h.2 rfl) _).set (fun h => h.2 rfl) _).mono (fun b _ h => h.1)
      · exact bl_set (bl_set (bl_set HBV.out (by simp <;> omega) _) (by simp <;> omega) _) (by simp <;> omega) _
set_option maxRecDepth 100000 in
set_option maxHeartbeats 4000000 in
theorem rfloor_any (ok : Nat → Prop) (v : Value) (r : Raw) (w : World) (hok : ∀ b, w.heap.size ≤ b → ok b) (h : RdR w v r) (g : Good 500000 r) :
    Calls Try.prog 33 #[v] w fun e w' => ∃ z, e = .returned z ∧ RdRaw w' ok z (raw (flr (qv r))) ∧ Below w.heap.size w w' := by
  have HR := Lib.hid h
  have GR := Lib.hid g
  obtain ⟨n1, d1, rfl, hn1, hd1⟩ := h
  obtain ⟨A1, c1, rfl, _, _⟩ := hn1.len
  obtain ⟨A2, c2, rfl, _, _⟩ := hd1.len
  clear hn1 hd1 g
  go_enter Try.func33, Try.ntmps33
  go_wp2_with fail
  have HA := Lib.hid (show Below w.heap.size w ((w.alloc (.cells #[.bool r.neg, .slice A1 r.num.length c1, .slice A2 r.den.length c2] 24)).alloc (.cells #[.bool false, .slice none 0 0, .slice none 0 0] 24)) from bl_alloc (bl_alloc (Below.refl _ _) _) _)
  refine (rcanon_any (fun x => ok x ∧ x ≠ w.heap.size + 1 ∧ x ≠ w.heap.size) _ r _ ?_ (HR.out.below HA.out) (GR.out.le (by omega))).mono ?_
  · intro b hb
    simp at hb
    exact ⟨hok b (by omega), by omega, by omega⟩
  rintro e w1 ⟨z1, rfl, hz1, hb1⟩
  have HZ := Lib.hid hz1.bd
  have HB := Lib.hid (bl_call HA.out hb1)
  have HG := Lib.hid (blk_below (blk_new' (w := w.alloc (.cells #[.bool r.neg, .slice A1 r.num.length c1, .slice A2 r.den.length c2] 24)) (g := w.heap.size + 1) (by simp) (.cells #[.bool false, .slice none 0 0, .slice none 0 0] 24)) hb1)
  have HGA := Lib.hid (blk_below (blk_alloc (blk_new w (.cells #[.bool r.neg, .slice A1 r.num.length c1, .slice A2 r.den.length c2] 24)) (.cells #[.bool false, .slice none 0 0, .slice none 0 0] 24)) hb1)
  obtain ⟨lq, lw⟩ := raw_len GR.out
  have HOK := Lib.hid hok
  obtain ⟨n3, d3, rfl, hn3, hd3⟩ := hz1
  have HN := Lib.hid hn3
  have HD := Lib.hid hd3
  obtain ⟨A3, c3, rfl, _, _⟩ := hn3.len
  obtain ⟨A4, c4, rfl, _, _⟩ := hd3.len
  have HF := Lib.hid (flr_sg (qv r))
  have HN0 := Lib.hid (show (raw (qv r)).neg = decide ((qv r).num < 0) from rfl)
  have hd0 : (qv r).den ≠ 0 := (qv r).den_nz
  have LQ := Lib.hid (show (limbs (qv r).num.natAbs).length ≤ 500001 from lq)
  have LW := Lib.hid (show (limbs (qv r).den).length ≤ 500001 from lw)
  rw [← HN0.out] at HF
  obtain ⟨neg, hneg⟩ : ∃ n, n = (raw (qv r)).neg := ⟨_, rfl⟩
  obtain ⟨k3, hk3⟩ : ∃ k, k = (raw (qv r)).num.length := ⟨_, rfl⟩
  obtain ⟨k4, hk4⟩ : ∃ k, k = (raw (qv r)).den.length := ⟨_, rfl⟩
  rw [← hneg, ← hk3, ← hk4]
  rw [← hneg] at HF
  rw [← hk3] at HN
  rw [← hk4] at HD
  have HN2 := Lib.hid (show Rdf .u32 w1 _ (.slice A3 k3 c3) (limbs (qv r).num.natAbs) from HN.out)
  have HD2 := Lib.hid (show Rdf .u32 w1 _ (.slice A4 k4 c4) (limbs (qv r).den) from HD.out)
  obtain ⟨a, ha⟩ : ∃ a, a = (qv r).num.natAbs := ⟨_, rfl⟩
  obtain ⟨b, hbq⟩ : ∃ b, b = (qv r).den := ⟨_, rfl⟩
  rw [← ha] at HN2 HF LQ
  rw [← hbq] at HD2 HF LW hd0
  clear hn3 hd3 hb1 HN HD HZ lq lw hneg hk3 hk4 ha hbq HN0 hok
  have m0 := blk_cell HG.out 0
  have m1 := blk_cell HG.out 1
  have m2 := blk_cell HG.out 2
  have mf := blk_frozen HG.out
  have mz := blk_lt HG.out
  simp at m0 m1 m2
  have p0 := blk_cell HGA.out 0
  have p1 := blk_cell HGA.out 1
  have p2 := blk_cell HGA.out 2
  have pf := blk_frozen HGA.out
  have pz := blk_lt HGA.out
  simp at p0 p1 p2
  go_upto_region 2 with (fail)
  obtain ⟨W, hW⟩ : ∃ W, W = ((w1.setCell ⟨w.heap.size, 0, none⟩ (.bool neg)).setCell ⟨w.heap.size, 1, none⟩ (.slice A3 k3 c3)).setCell ⟨w.heap.size, 2, none⟩ (.slice A4 k4 c4) := ⟨_, rfl⟩
  have HNW := Lib.hid (show Rd .u32 W (.slice A3 k3 c3) (limbs a) by rw [hW]; exact ((((HN2.out.set (fun h => h.2.2 rfl) _).set (fun h => h.2.2 rfl) _).set (fun h => h.2.2 rfl) _).now))
  have HDW := Lib.hid (show Rd .u32 W (.slice A4 k4 c4) (limbs b) by rw [hW]; exact ((((HD2.out.set (fun h => h.2.2 rfl) _).set (fun h => h.2.2 rfl) _).set (fun h => h.2.2 rfl) _).now))
  have GC := Lib.hid (show W.heap[w.heap.size]? = some (.cells #[.bool neg, .slice A3 k3 c3, .slice A4 k4 c4] 24 (0, 0)) by rw [hW]; exact blk_set3 HGA.out _ _ _)
  have GR2 := Lib.hid (show W.heap[w.heap.size + 1]? = some (.cells #[.bool false, .slice none 0 0, .slice none 0 0] 24 (0, 0)) by rw [hW]; exact blk_far (blk_far (blk_far HG.out (by simp) _) (by simp) _) (by simp) _)
  have HBW := Lib.hid (show Below w.heap.size w W by rw [hW]; exact bl_set (bl_set (bl_set HB.out (Nat.le_refl _) _) (Nat.le_refl _) _) (Nat.le_refl _) _)
  rw [← hW]
  clear hW m0 m1 m2 mf mz p0 p1 p2 pf pz
  have q0 := blk_cell GC.out 0
  have q1 := blk_cell GC.out 1
  have q2 := blk_cell GC.out 2
  simp at q0 q1 q2
  go_wp2_with fail
  refine (rdiv_any (fun x => ok x ∧ x ≠ w.heap.size + 1 ∧ x ≠ w.heap.size) _ _ a b _ ?_ HNW.out HDW.out (by have := LQ.out; omega) (by have := LW.out; omega) hd0).mono ?_
  · intro b hb
    have h8 := HBW.out.size
    have h9 := blk_lt GR2.out
    exact ⟨HOK.out b (by omega), by omega, by omega⟩
  rintro e w2 ⟨zq, zr, rfl, hq, hr, hb2⟩
  have HQ := Lib.hid hq
  have HRR := Lib.hid hr
  have GC2 := Lib.hid (blk_below GC.out hb2)
  have GR3 := Lib.hid (blk_below GR2.out hb2)
  have HB2 := Lib.hid (bl_call HBW.out hb2)
  obtain ⟨A5, c5, rfl, _, _⟩ := hq.len
  obtain ⟨A6, c6, rfl, _, _⟩ := hr
  clear hq hb2 q0 q1 q2 HNW HDW GC GR2 HBW
  have HL0 := Lib.hid (show (limbs (a % b)).length = 0 ↔ a % b = 0 by rw [List.length_eq_zero_iff, limbs_eq_nil])
  have LQ2 := Lib.hid (show (limbs (a / b)).length ≤ 500001 from Nat.le_trans (limbs_len_div a b) LQ.out)
  obtain ⟨kq, hkq⟩ : ∃ k, k = (limbs (a / b)).length := ⟨_, rfl⟩
  obtain ⟨kr, hkr⟩ : ∃ k, k = (limbs (a % b)).length := ⟨_, rfl⟩
  rw [← hkq] at HQ ⊢
  rw [← hkr] at HRR HL0 ⊢
  clear hkq hkr HRR
  have m0 := blk_cell GC2.out 0
  have m1 := blk_cell GC2.out 1
  have m2 := blk_cell GC2.out 2
  have mz := blk_lt GC2.out
  have mz2 := blk_lt GR3.out
  simp at m0 m1 m2
  cases neg
  · have HQE := Lib.hid (show mkRat (sg false (a / b)) 1 = flr (qv r) by rw [← HF.out]; simp)
    have LQ3 := LQ2
    go_wp2_with fail
    refine (build_nat (fun x => ok x ∧ x ≠ w.heap.size + 1 ∧ x ≠ w.heap.size) false _ _ (a / b) 1 _ ?_ (HQ.out.below (bl_alloc (Below.refl _ _) _)).now (by rw [limbs_one]; exact (one_limb (ok := fun _ => True) _ _ _ rfl trivial).now) (by have := LQ3.out; omega) (by rw [limbs_one]; simp)).mono ?_
    · intro b hb
      have h8 := HB2.out.size
      have h9 := blk_lt GR3.out
      simp at hb
      exact ⟨HOK.out b (by omega), by omega, by omega⟩
    rw [HQE.out]
    rintro e w9 ⟨r3, rfl, ⟨n9, d9, rfl, hn9, hd9⟩, hv9⟩
    have HN9 := Lib.hid hn9
    have HD9 := Lib.hid hd9
    have HBV := Lib.hid (bl_call (bl_alloc HB2.out _) hv9)
    have g9 := blk_below (blk_alloc GR3.out _) hv9
    have u0 := blk_cell g9 0
    have u1 := blk_cell g9 1
    have u2 := blk_cell g9 2
    have uf := blk_frozen g9
    simp at u0 u1 u2
    obtain ⟨A11, c11, rfl, l7, l8⟩ := hn9.len
    obtain ⟨A12, c12, rfl, l9, l10⟩ := hd9.len
    clear hn9 hd9 hv9 g9
    go_wp2_with fail
    refine bodyPost_ret (v := .agg #[.bool (raw (flr (qv r))).neg, .slice A11 (raw (flr (qv r))).num.length c11, .slice A12 (raw (flr (qv r))).den.length c12]) (by simp [results, Try.results33, go_sem, u0, u1, u2]) rfl ⟨_, rfl, ?_, ?_⟩
    · refine ⟨_, _, rfl, ?_, ?_⟩
      · exact (((HN9.out.set (fun h => h.2.1 rfl) _).set (fun h => h.2.1 rfl) _).set (fun h => h.2.1 rfl) _).mono (fun b _ h => h.1)
      · exact (((HD9.out.set (fun h => h.2.1 rfl) _).set (fun h => h.2.1 rfl) _).set (fun h => h.2.1 rfl) _).mono (fun b _ h => h.1)
    · exact bl_set (bl_set (bl_set HBV.out (by simp <;> omega) _) (by simp <;> omega) _) (by simp <;> omega) _
  · by_cases h0 : a % b = 0
    · have HQE := Lib.hid (show mkRat (sg true (a / b)) 1 = flr (qv r) by rw [← HF.out]; simp [h0])
      have LQ3 := LQ2
      obtain rfl : kr = 0 := HL0.out.2 h0
      clear h0
      go_wp2_with fail
      refine (build_nat (fun x => ok x ∧ x ≠ w.heap.size + 1 ∧ x ≠ w.heap.size) true _ _ (a / b) 1 _ ?_ (HQ.out.below (bl_alloc (Below.refl _ _) _)).now (by rw [limbs_one]; exact (one_limb (ok := fun _ => True) _ _ _ rfl trivial).now) (by have := LQ3.out; omega) (by rw [limbs_one]; simp)).mono ?_
      · intro b hb
        have h8 := HB2.out.size
        have h9 := blk_lt GR3.out
        simp at hb
        exact ⟨HOK.out b (by omega), by omega, by omega⟩
      rw [HQE.out]
      rintro e w9 ⟨r3, rfl, ⟨n9, d9, rfl, hn9, hd9⟩, hv9⟩
      have HN9 := Lib.hid hn9
      have HD9 := Lib.hid hd9
      have HBV := Lib.hid (bl_call (bl_alloc HB2.out _) hv9)
      have g9 := blk_below (blk_alloc GR3.out _) hv9
      have u0 := blk_cell g9 0
      have u1 := blk_cell g9 1
      have u2 := blk_cell g9 2
      have uf := blk_frozen g9
      simp at u0 u1 u2
      obtain ⟨A11, c11, rfl, l7, l8⟩ := hn9.len
      obtain ⟨A12, c12, rfl, l9, l10⟩ := hd9.len
      clear hn9 hd9 hv9 g9
      go_wp2_with fail
      refine bodyPost_ret (v := .agg #[.bool (raw (flr (qv r))).neg, .slice A11 (raw (flr (qv r))).num.length c11, .slice A12 (raw (flr (qv r))).den.length c12]) (by simp [results, Try.results33, go_sem, u0, u1, u2]) rfl ⟨_, rfl, ?_, ?_⟩
      · refine ⟨_, _, rfl, ?_, ?_⟩
        · exact (((HN9.out.set (fun h => h.2.1 rfl) _).set (fun h => h.2.1 rfl) _).set (fun h => h.2.1 rfl) _).mono (fun b _ h => h.1)
        · exact (((HD9.out.set (fun h => h.2.1 rfl) _).set (fun h => h.2.1 rfl) _).set (fun h => h.2.1 rfl) _).mono (fun b _ h => h.1)
      · exact bl_set (bl_set (bl_set HBV.out (by simp <;> omega) _) (by simp <;> omega) _) (by simp <;> omega) _
    · have HQE := Lib.hid (show mkRat (sg true (a / b + 1)) 1 = flr (qv r) by rw [← HF.out]; simp [h0])
      have LQ3 := Lib.hid (show (limbs (a / b + 1)).length ≤ 500002 from limbs_len_add (a / b) 1 500001 LQ2.out (by rw [limbs_one]; simp))
      have hkr0 : (0 : Int) < (kr : Int) := by have : kr ≠ 0 := fun e => h0 (HL0.out.1 e); omega
      clear h0
      have HQ' := Lib.hid (HQ.out.below (bl_alloc (Below.refl _ _) (.cells #[.int .u32 1] 43)))
      go_wp2_with fail
      refine (radd_any (fun x => ok x ∧ x ≠ w.heap.size + 1 ∧ x ≠ w.heap.size) _ _ (a / b) 1 _ ?_ HQ'.out.now (by rw [limbs_one]; exact (one_limb (ok := fun _ => True) _ _ _ rfl trivial).now) (by have := LQ2.out; omega) (by rw [limbs_one]; simp)).mono ?_
      · intro b hb
        have h8 := HB2.out.size
        have h9 := blk_lt GR3.out
        simp at hb
        exact ⟨HOK.out b (by omega), by omega, by omega⟩
      rintro e w4 ⟨z4, rfl, hz4, hb4⟩
      have HQ4 := Lib.hid hz4
      have GC4 := Lib.hid (blk_below (blk_alloc GC2.out _) hb4)
      have GR4 := Lib.hid (blk_below (blk_alloc GR3.out _) hb4)
      have HB4 := Lib.hid (bl_call (bl_alloc HB2.out _) hb4)
      obtain ⟨A7, c7, rfl, _, _⟩ := hz4.len
      clear hz4 hb4 m0 m1 m2 mz mz2
      have m0 := blk_cell GC4.out 0
      have m1 := blk_cell GC4.out 1
      have m2 := blk_cell GC4.out 2
      have mz := blk_lt GC4.out
      have mz2 := blk_lt GR4.out
      simp at m0 m1 m2
      go_wp2_with fail
      refine (build_nat (fun x => ok x ∧ x ≠ w.heap.size + 1 ∧ x ≠ w.heap.size) true _ _ (a / b + 1) 1 _ ?_ (HQ4.out.below (bl_alloc (Below.refl _ _) _)).now (by rw [limbs_one]; exact (one_limb (ok := fun _ => True) _ _ _ rfl trivial).now) (by have := LQ3.out; omega) (by rw [limbs_one]; simp)).mono ?_
      · intro b hb
        have h8 := HB4.out.size
        have h9 := blk_lt GR4.out
        simp at hb
        exact ⟨HOK.out b (by omega), by omega, by omega⟩
      rw [HQE.out]
      rintro e w9 ⟨r3, rfl, ⟨n9, d9, rfl, hn9, hd9⟩, hv9⟩
      have HN9 := Lib.hid hn9
      have HD9 := Lib.hid hd9
      have HBV := Lib.hid (bl_call (bl_alloc HB4.out _) hv9)
      have g9 := blk_below (blk_alloc GR4.out _) hv9
      have u0 := blk_cell g9 0
      have u1 := blk_cell g9 1
      have u2 := blk_cell g9 2
      have uf := blk_frozen g9
      simp at u0 u1 u2
      obtain ⟨A11, c11, rfl, l7, l8⟩ := hn9.len
      obtain ⟨A12, c12, rfl, l9, l10⟩ := hd9.len
      clear hn9 hd9 hv9 g9
      go_wp2_with fail
      refine bodyPost_ret (v := .agg #[.bool (raw (flr (qv r))).neg, .slice A11 (raw (flr (qv r))).num.length c11, .slice A12 (raw (flr (qv r))).den.length c12]) (by simp [results, Try.results33, go_sem, u0, u1, u2]) rfl ⟨_, rfl, ?_, ?_⟩
      · refine ⟨_, _, rfl, ?_, ?_⟩
        · exact (((HN9.out.set (fun h => h.2.1 rfl) _).set (fun h => h.2.1 rfl) _).set (fun h => h.2.1 rfl) _).mono (fun b _ h => h.1)
        · exact (((HD9.out.set (fun h => h.2.1 rfl) _).set (fun h => h.2.1 rfl) _).set (fun h => h.2.1 rfl) _).mono (fun b _ h => h.1)
      · exact bl_set (bl_set (bl_set HBV.out (by simp <;> omega) _) (by simp <;> omega) _) (by simp <;> omega) _
set_option maxRecDepth 100000 in
set_option maxHeartbeats 4000000 in
theorem ceil_any (ok : Nat → Prop) (v : Value) (r : Raw) (w : World) (hok : ∀ b, w.heap.size ≤ b → ok b) (h : RdR w v r) (g : Good 400000 r) :
    Calls Try.prog 34 #[v] w fun e w' => ∃ z, e = .returned z ∧ RdRaw w' ok z (raw (-(flr (-(qv r))))) ∧ Below w.heap.size w w' := by
  have HR := Lib.hid h
  have G1 := Lib.hid (good_neg (good_qv g))
  have G2 := Lib.hid (good_flr (good_neg (good_qv g)))
  have GR := Lib.hid g
  have HOK := Lib.hid hok
  have F2 := Lib.hid (fun v w h => floor_any (fun _ => True) v (raw (-(qv r))) w (fun _ _ => trivial) h (G1.out.le (by omega)))
  have F3 := Lib.hid (fun ok v w hok h => neg_any ok v (raw (flr (-(qv r)))) w hok h (G2.out.le (by omega)))
  rw [qv_raw] at F2 F3
  obtain ⟨n1, d1, rfl, hn1, hd1⟩ := h
  obtain ⟨A1, c1, rfl, _, _⟩ := hn1.len
  obtain ⟨A2, c2, rfl, _, _⟩ := hd1.len
  clear hn1 hd1 g hok
  go_enter Try.func34, Try.ntmps34
  go_wp2_with fail
  have HA := Lib.hid (show Below w.heap.size w ((w.alloc (.cells #[.bool r.neg, .slice A1 r.num.length c1, .slice A2 r.den.length c2] 24)).alloc (.cells #[.bool false, .slice none 0 0, .slice none 0 0] 24)) from bl_alloc (bl_alloc (Below.refl _ _) _) _)
  refine (neg_any (fun _ => True) _ r _ (fun _ _ => trivial) (HR.out.below HA.out) (GR.out.le (by omega))).mono ?_
  rintro e w1 ⟨z1, rfl, hz1, hb1⟩
  have HZ1 := Lib.hid hz1.now
  have HB1 := Lib.hid (bl_call HA.out hb1)
  have HG1 := Lib.hid (blk_below (blk_new' (w := w.alloc (.cells #[.bool r.neg, .slice A1 r.num.length c1, .slice A2 r.den.length c2] 24)) (g := w.heap.size + 1) (by simp) (.cells #[.bool false, .slice none 0 0, .slice none 0 0] 24)) hb1)
  clear hz1 hb1
  go_wp2_with fail
  refine (F2.out _ _ HZ1.out).mono ?_
  rintro e w2 ⟨z2, rfl, hz2, hb2⟩
  have HZ2 := Lib.hid hz2.now
  have HB2 := Lib.hid (bl_call HB1.out hb2)
  have HG2 := Lib.hid (blk_below HG1.out hb2)
  clear hz2 hb2
  go_wp2_with fail
  refine (F3.out (fun x => ok x ∧ x ≠ w.heap.size + 1) _ _ ?_ HZ2.out).mono ?_
  · intro b hb
    have h8 := HB2.out.size
    have h9 := blk_lt HG2.out
    exact ⟨HOK.out b (by omega), by omega⟩
  obtain ⟨Z, hZ⟩ : ∃ Z, Z = -(flr (-(qv r))) := ⟨_, rfl⟩
  rintro e w3 ⟨z3, rfl, ⟨n3, d3, rfl, hn3, hd3⟩, hb3⟩
  rw [← hZ] at hn3 hd3 ⊢
  have HN3 := Lib.hid hn3
  have HD3 := Lib.hid hd3
  have HZE := Lib.hid hZ
  have HB3 := Lib.hid (bl_call HB2.out hb3)
  have g9 := blk_below HG2.out hb3
  have m0 := blk_cell g9 0
  have m1 := blk_cell g9 1
  have m2 := blk_cell g9 2
  have mf := blk_frozen g9
  simp at m0 m1 m2
  obtain ⟨A5, c5, rfl, _, _⟩ := hn3.len
  obtain ⟨A6, c6, rfl, _, _⟩ := hd3.len
  clear hn3 hd3 hb3 g9 hZ
  go_wp2_with fail
  refine bodyPost_ret (v := .agg #[.bool (raw Z).neg, .slice A5 (raw Z).num.length c5, .slice A6 (raw Z).den.length c6]) (by simp [results, Try.results34, go_sem, m0, m1, m2]) rfl ⟨_, rfl, ?_, ?_⟩
  · rw [← HZE.out]
    refine ⟨_, _, rfl, ?_, ?_⟩
    · exact (((HN3.out.set (fun h => h.2 rfl) _).set (fun h => h.2 rfl) _).set (fun h => h.2 rfl) _).mono (fun b _ h => h.1)
    · exact (((HD3.out.set (fun h => h.2 rfl) _).set (fun h => h.2 rfl) _).set (fun h => h.2 rfl) _).mono (fun b _ h => h.1)
  · exact bl_set (bl_set (bl_set HB3.out (by simp) _) (by simp) _) (by simp) _
set_option maxRecDepth 100000 in
set_option maxHeartbeats 4000000 in
theorem rceil_any (ok : Nat → Prop) (v : Value) (r : Raw) (w : World) (hok : ∀ b, w.heap.size ≤ b → ok b) (h : RdR w v r) (g : Good 400000 r) :
    Calls Try.prog 35 #[v] w fun e w' => ∃ z, e = .returned z ∧ RdRaw w' ok z (raw (-(flr (-(qv r))))) ∧ Below w.heap.size w w' := by
  have HR := Lib.hid h
  have G1 := Lib.hid (good_neg (good_qv g))
  have G2 := Lib.hid (good_flr (good_neg (good_qv g)))
  have GR := Lib.hid g
  have HOK := Lib.hid hok
  have F2 := Lib.hid (fun v w h => rfloor_any (fun _ => True) v (raw (-(qv r))) w (fun _ _ => trivial) h (G1.out.le (by omega)))
  have F3 := Lib.hid (fun ok v w hok h => rneg_any ok v (raw (flr (-(qv r)))) w hok h (G2.out.le (by omega)))
  rw [qv_raw] at F2 F3
  obtain ⟨n1, d1, rfl, hn1, hd1⟩ := h
  obtain ⟨A1, c1, rfl, _, _⟩ := hn1.len
  obtain ⟨A2, c2, rfl, _, _⟩ := hd1.len
  clear hn1 hd1 g hok
  go_enter Try.func35, Try.ntmps35
  go_wp2_with fail
  have HA := Lib.hid (show Below w.heap.size w ((w.alloc (.cells #[.bool r.neg, .slice A1 r.num.length c1, .slice A2 r.den.length c2] 24)).alloc (.cells #[.bool false, .slice none 0 0, .slice none 0 0] 24)) from bl_alloc (bl_alloc (Below.refl _ _) _) _)
  refine (rneg_any (fun _ => True) _ r _ (fun _ _ => trivial) (HR.out.below HA.out) (GR.out.le (by omega))).mono ?_
  rintro e w1 ⟨z1, rfl, hz1, hb1⟩
  have HZ1 := Lib.hid hz1.now
  have HB1 := Lib.hid (bl_call HA.out hb1)
  have HG1 := Lib.hid (blk_below (blk_new' (w := w.alloc (.cells #[.bool r.neg, .slice A1 r.num.length c1, .slice A2 r.den.length c2] 24)) (g := w.heap.size + 1) (by simp) (.cells #[.bool false, .slice none 0 0, .slice none 0 0] 24)) hb1)
  clear hz1 hb1
  go_wp2_with fail
  refine (F2.out _ _ HZ1.out).mono ?_
  rintro e w2 ⟨z2, rfl, hz2, hb2⟩
  have HZ2 := Lib.hid hz2.now
  have HB2 := Lib.hid (bl_call HB1.out hb2)
  have HG2 := Lib.hid (blk_below HG1.out hb2)
  clear hz2 hb2
  go_wp2_with fail
  refine (F3.out (fun x => ok x ∧ x ≠ w.heap.size + 1) _ _ ?_ HZ2.out).mono ?_
  · intro b hb
    have h8 := HB2.out.size
    have h9 := blk_lt HG2.out
    exact ⟨HOK.out b (by omega), by omega⟩
  obtain ⟨Z, hZ⟩ : ∃ Z, Z = -(flr (-(qv r))) := ⟨_, rfl⟩
  rintro e w3 ⟨z3, rfl, ⟨n3, d3, rfl, hn3, hd3⟩, hb3⟩
  rw [← hZ] at hn3 hd3 ⊢
  have HN3 := Lib.hid hn3
  have HD3 := Lib.hid hd3
  have HZE := Lib.hid hZ
  have HB3 := Lib.hid (bl_call HB2.out hb3)
  have g9 := blk_below HG2.out hb3
  have m0 := blk_cell g9 0
  have m1 := blk_cell g9 1
  have m2 := blk_cell g9 2
  have mf := blk_frozen g9
  simp at m0 m1 m2
  obtain ⟨A5, c5, rfl, _, _⟩ := hn3.len
  obtain ⟨A6, c6, rfl, _, _⟩ := hd3.len
  clear hn3 hd3 hb3 g9 hZ
  go_wp2_with fail
  refine bodyPost_ret (v := .agg #[.bool (raw Z).neg, .slice A5 (raw Z).num.length c5, .slice A6 (raw Z).den.length c6]) (by simp [results, Try.results35, go_sem, m0, m1, m2]) rfl ⟨_, rfl, ?_, ?_⟩
  · rw [← HZE.out]
    refine ⟨_, _, rfl, ?_, ?_⟩
    · exact (((HN3.out.set (fun h => h.2 rfl) _).set (fun h => h.2 rfl) _).set (fun h => h.2 rfl) _).mono (fun b _ h => h.1)
    · exact (((HD3.out.set (fun h => h.2 rfl) _).set (fun h => h.2 rfl) _).set (fun h => h.2 rfl) _).mono (fun b _ h => h.1)
  · exact bl_set (bl_set (bl_set HB3.out (by simp) _) (by simp) _) (by simp) _
theorem floor_n {c : Bool} {L : Nat} {w : World} {v : Value} {p : Rat} (hv : Num c L w v p) (hL : L ≤ 100000) :
    Calls Try.prog 32 #[v] w fun e w' => ∃ z, e = .returned z ∧ Num true (L + 1 + 1) w' z (flr p) ∧ Below w.heap.size w w' := by
  have hg := hv.good
  obtain ⟨r, h1, h2, rfl, h4⟩ := hv
  refine (floor_any (fun _ => True) v r w (fun _ _ => trivial) h1 (h2.le (by omega))).mono ?_
  rintro e w1 ⟨z, rfl, hz, hb⟩
  exact ⟨z, rfl, Num.mk hz (good_flr hg), hb⟩
theorem ceil_n {c : Bool} {L : Nat} {w : World} {v : Value} {p : Rat} (hv : Num c L w v p) (hL : L ≤ 100000) :
    Calls Try.prog 34 #[v] w fun e w' => ∃ z, e = .returned z ∧ Num true (L + 1 + 1) w' z (-(flr (-p))) ∧ Below w.heap.size w w' := by
  have hg := hv.good
  obtain ⟨r, h1, h2, rfl, h4⟩ := hv
  refine (ceil_any (fun _ => True) v r w (fun _ _ => trivial) h1 (h2.le (by omega))).mono ?_
  rintro e w1 ⟨z, rfl, hz, hb⟩
  exact ⟨z, rfl, Num.mk hz (good_neg (good_flr (good_neg hg))), hb⟩
theorem rfloor_n {c : Bool} {L : Nat} {w : World} {v : Value} {p : Rat} (hv : Num c L w v p) (hL : L ≤ 100000) :
    Calls Try.prog 33 #[v] w fun e w' => ∃ z, e = .returned z ∧ Num true (L + 1 + 1) w' z (flr p) ∧ Below w.heap.size w w' := by
  have hg := hv.good
  obtain ⟨r, h1, h2, rfl, h4⟩ := hv
  refine (rfloor_any (fun _ => True) v r w (fun _ _ => trivial) h1 (h2.le (by omega))).mono ?_
  rintro e w1 ⟨z, rfl, hz, hb⟩
  exact ⟨z, rfl, Num.mk hz (good_flr hg), hb⟩
theorem rceil_n {c : Bool} {L : Nat} {w : World} {v : Value} {p : Rat} (hv : Num c L w v p) (hL : L ≤ 100000) :
    Calls Try.prog 35 #[v] w fun e w' => ∃ z, e = .returned z ∧ Num true (L + 1 + 1) w' z (-(flr (-p))) ∧ Below w.heap.size w w' := by
  have hg := hv.good
  obtain ⟨r, h1, h2, rfl, h4⟩ := hv
  refine (rceil_any (fun _ => True) v r w (fun _ _ => trivial) h1 (h2.le (by omega))).mono ?_
  rintro e w1 ⟨z, rfl, hz, hb⟩
  exact ⟨z, rfl, Num.mk hz (good_neg (good_flr (good_neg hg))), hb⟩
end Go.Proofs.Ytikpdkgamcecjaa
