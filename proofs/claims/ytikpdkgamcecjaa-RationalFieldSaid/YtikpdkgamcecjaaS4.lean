/- Walks: whole, Integral, Sign, Neg, Abs of the program. -/
import Derived.Test.YtikpdkgamcecjaaS3
namespace Go.Proofs.Ytikpdkgamcecjaa
open Go.RowKit
set_option linter.unusedSimpArgs false
set_option linter.unusedVariables false

theorem limbs_is_one (d : Nat) : decide (d = 1) = (decide ((limbs d).length = 1) && decide ((limbs d).getD 0 0 = 1)) := by
  by_cases h : d = 1
  · subst h; simp [limbs_one]
  · simp only [h, decide_false]
    symm
    simp only [Bool.and_eq_false_iff, decide_eq_false_iff_not]
    by_cases h1 : (limbs d).length = 1
    · right
      intro h2
      have h3 : val (limbs d) = d := val_limbs d
      match limbs d, h1, h2, h3 with
      | [z], _, h2, h3 =>
        simp [val] at h2 h3
        omega
    · exact .inl h1
theorem RdRaw.bd {w : World} {ok : Nat → Prop} {z : Value} {r : Raw} (h : RdRaw w ok z r) : RdRaw w (fun b => ok b ∧ b < w.heap.size) z r := h.mono (fun b hl hk => ⟨hk, hl⟩)
set_option maxRecDepth 100000 in
set_option maxHeartbeats 4000000 in
theorem whole_any (v : Value) (r : Raw) (d : Nat) (w : World) (h : RdR w v r) (hd : r.den = limbs d) :
    Calls Try.prog 62 #[v] w fun e w' => e = .returned (.bool (decide (d = 1))) ∧ Below w.heap.size w w' := by
  rw [limbs_is_one, ← hd]
  obtain ⟨n1, d1, rfl, hn1, hd1⟩ := h
  obtain ⟨A1, c1, rfl, _, _⟩ := hn1.len
  have hz := hd1.now
  obtain ⟨A2, c2, rfl, _, hx⟩ := hz
  obtain ⟨ys, hys⟩ : ∃ ys, ys = r.den := ⟨_, rfl⟩
  rw [← hys] at hx ⊢
  clear hn1 hd1 hd hys
  have HC := Lib.hid hx
  clear hx
  by_cases h1 : ys.length = 1
  · obtain ⟨ad, rfl, hcell⟩ := HC.out.resolve_left (by rintro rfl; simp at h1)
    have d0 : w.cell? (ad.add 0) = some (.int .u32 (ys.getD 0 0)) := hcell 0 (by omega)
    have d1 : w.cell? ad = some (.int .u32 (ys.getD 0 0)) := by
      have e9 : ad.add 0 = ad := by unfold Addr.add; simp
      rw [e9] at d0; exact d0
    have hbl : ad.block < w.heap.size := World.block_lt_of_cell? w _ d1
    obtain ⟨x, hx⟩ : ∃ z, z = ys.getD 0 0 := ⟨_, rfl⟩
    rw [← hx] at d1 ⊢
    rw [h1]
    have dA := (World.cell?_alloc_lt w (.cells #[.bool r.neg, .slice A1 r.num.length c1, .slice (some ad) 1 c2] 24) ad hbl).trans d1
    clear hx hcell d0 h1
    go_enter Try.func62, Try.ntmps62
    by_cases hx1 : x = 1
    · subst hx1
      go_wp2
      go_ret
      exact ⟨by simp, bl_alloc (Below.refl _ _) _⟩
    · go_wp2
      all_goals try (exfalso; omega)
      go_ret
      exact ⟨by simp [hx1], bl_alloc (Below.refl _ _) _⟩
  · obtain ⟨k, hk⟩ : ∃ k, k = ys.length := ⟨_, rfl⟩
    rw [← hk] at h1 ⊢
    have h2 : ((k : Int) == 1) = false := by simp; omega
    go_enter Try.func62, Try.ntmps62
    go_wp2
    all_goals try (exfalso; omega)
    go_ret
    exact ⟨by simp [h1], bl_alloc (Below.refl _ _) _⟩
set_option maxRecDepth 100000 in
set_option maxHeartbeats 4000000 in
theorem integral_any (v : Value) (r : Raw) (w : World) (h : RdR w v r) (g : Good 4000000 r) :
    Calls Try.prog 50 #[v] w fun e w' => e = .returned (.bool (decide ((qv r).den = 1))) ∧ Below w.heap.size w w' := by
  have HR := Lib.hid h
  have GR := Lib.hid g
  obtain ⟨n1, d1, rfl, hn1, hd1⟩ := h
  obtain ⟨A1, c1, rfl, _, _⟩ := hn1.len
  obtain ⟨A2, c2, rfl, _, _⟩ := hd1.len
  clear hn1 hd1 g
  go_enter Try.func50, Try.ntmps50
  go_wp2_with fail
  have HA := Lib.hid (show Below w.heap.size w ((w.alloc (.cells #[.bool r.neg, .slice A1 r.num.length c1, .slice A2 r.den.length c2] 24))) from bl_alloc (Below.refl _ _) _)
  refine (canon_any (fun _ => True) _ r _ ?_ (HR.out.below HA.out) (GR.out.le (by omega))).mono ?_
  · intro b hb
    simp at hb
    trivial
  rintro e w1 ⟨z1, rfl, hz1, hb1⟩
  have HZ := Lib.hid hz1.bd
  have HB := Lib.hid (bl_call HA.out hb1)
  clear hz1 hb1
  go_wp2_with fail
  refine (whole_any _ (raw (qv r)) (qv r).den _ ((HZ.out).now) rfl).mono ?_
  rintro e w2 ⟨rfl, hb2⟩
  go_wp2_with fail
  go_ret
  exact ⟨rfl, bl_call HB.out hb2⟩
set_option maxRecDepth 100000 in
set_option maxHeartbeats 4000000 in
theorem sign_any (v : Value) (r : Raw) (w : World) (h : RdR w v r) (g : Good 4000000 r) :
    Calls Try.prog 52 #[v] w fun e w' => e = .returned (.int .i64 (sgnZ (qv r))) ∧ Below w.heap.size w w' := by
  have HR := Lib.hid h
  have GR := Lib.hid g
  obtain ⟨n1, d1, rfl, hn1, hd1⟩ := h
  obtain ⟨A1, c1, rfl, _, _⟩ := hn1.len
  obtain ⟨A2, c2, rfl, _, _⟩ := hd1.len
  clear hn1 hd1 g
  go_enter Try.func52, Try.ntmps52
  go_wp2_with fail
  have HA := Lib.hid (show Below w.heap.size w ((w.alloc (.cells #[.bool r.neg, .slice A1 r.num.length c1, .slice A2 r.den.length c2] 24))) from bl_alloc (Below.refl _ _) _)
  refine (canon_any (fun _ => True) _ r _ ?_ (HR.out.below HA.out) (GR.out.le (by omega))).mono ?_
  · intro b hb
    simp at hb
    trivial
  rintro e w1 ⟨z1, rfl, hz1, hb1⟩
  have HZ := Lib.hid hz1.bd
  have HB := Lib.hid (bl_call HA.out hb1)
  obtain ⟨n3, d3, rfl, hn3, hd3⟩ := hz1
  obtain ⟨A3, c3, rfl, _, _⟩ := hn3.len
  obtain ⟨A4, c4, rfl, _, _⟩ := hd3.len
  clear hn3 hd3 hb1
  have HE := Lib.hid (show (raw (qv r)).num.length = 0 ↔ (qv r).num = 0 by
    show (limbs (qv r).num.natAbs).length = 0 ↔ _
    rw [List.length_eq_zero_iff, limbs_eq_nil]; omega)
  have HN := Lib.hid (show (raw (qv r)).neg = decide ((qv r).num < 0) from rfl)
  have HS := Lib.hid (show sgnZ (qv r) = if (qv r).num = 0 then 0 else if (qv r).num < 0 then -1 else 1 from rfl)
  obtain ⟨k, hk⟩ : ∃ k, k = (raw (qv r)).num.length := ⟨_, rfl⟩
  obtain ⟨b, hbb⟩ : ∃ b, b = (raw (qv r)).neg := ⟨_, rfl⟩
  rw [← hk] at HE HZ ⊢
  rw [← hbb] at HN HZ ⊢
  clear hk hbb
  by_cases h0 : (qv r).num = 0
  · obtain rfl : k = 0 := HE.out.2 h0
    rw [if_pos h0] at HS
    go_wp2
    all_goals try (exfalso; omega)
    go_ret
    exact ⟨by rw [HS.out]; rfl, bl_alloc HB.out _⟩
  · have hk0 : ((k : Int) == 0) = false := by simp; exact fun e => h0 (HE.out.1 e)
    rw [if_neg h0] at HS
    cases b
    · have h1 : ¬ (qv r).num < 0 := by have := HN.out; simpa using this.symm
      rw [if_neg h1] at HS
      clear h0 h1
      go_wp2
      all_goals try (exfalso; omega)
      go_ret
      exact ⟨by rw [HS.out]; rfl, bl_alloc HB.out _⟩
    · have h1 : (qv r).num < 0 := by have := HN.out; simpa using this.symm
      rw [if_pos h1] at HS
      clear h0 h1
      go_wp2
      all_goals try (exfalso; omega)
      go_ret
      exact ⟨by rw [HS.out]; rfl, bl_alloc HB.out _⟩
set_option maxRecDepth 100000 in
set_option maxHeartbeats 4000000 in
theorem neg_any (ok : Nat → Prop) (v : Value) (r : Raw) (w : World) (hok : ∀ b, w.heap.size ≤ b → ok b) (h : RdR w v r) (g : Good 4000000 r) :
    Calls Try.prog 39 #[v] w fun e w' => ∃ z, e = .returned z ∧ RdRaw w' ok z (raw (-(qv r))) ∧ Below w.heap.size w w' := by
  have HR := Lib.hid h
  have GR := Lib.hid g
  obtain ⟨n1, d1, rfl, hn1, hd1⟩ := h
  obtain ⟨A1, c1, rfl, _, _⟩ := hn1.len
  obtain ⟨A2, c2, rfl, _, _⟩ := hd1.len
  clear hn1 hd1 g
  go_enter Try.func39, Try.ntmps39
  go_wp2_with fail
  have HA := Lib.hid (show Below w.heap.size w ((w.alloc (.cells #[.bool r.neg, .slice A1 r.num.length c1, .slice A2 r.den.length c2] 24)).alloc (.cells #[.bool false, .slice none 0 0, .slice none 0 0] 24)) from bl_alloc (bl_alloc (Below.refl _ _) _) _)
  refine (canon_any (fun x => ok x ∧ x ≠ w.heap.size + 1) _ r _ ?_ (HR.out.below HA.out) (GR.out.le (by omega))).mono ?_
  · intro b hb
    simp at hb
    exact ⟨hok b (by omega), by omega⟩
  rintro e w1 ⟨z1, rfl, hz1, hb1⟩
  have HZ := Lib.hid hz1.bd
  have HB := Lib.hid (bl_call HA.out hb1)
  have HG := Lib.hid (blk_below (blk_new' (w := w.alloc (.cells #[.bool r.neg, .slice A1 r.num.length c1, .slice A2 r.den.length c2] 24)) (g := w.heap.size + 1) (by simp) (.cells #[.bool false, .slice none 0 0, .slice none 0 0] 24)) hb1)
  obtain ⟨n3, d3, rfl, hn3, hd3⟩ := hz1
  obtain ⟨A3, c3, rfl, _, _⟩ := hn3.len
  obtain ⟨A4, c4, rfl, _, _⟩ := hd3.len
  clear hn3 hd3 hb1
  obtain ⟨Z, hZ⟩ : ∃ Z, Z = raw (qv r) := ⟨_, rfl⟩
  have HE := Lib.hid (raw_neg (qv r))
  rw [← hZ] at HE HZ ⊢
  clear hZ
  obtain ⟨neg, num, den⟩ := Z
  simp only at HE HZ ⊢
  obtain ⟨k, hk⟩ : ∃ k, k = num.length := ⟨_, rfl⟩
  have HK := Lib.hid hk
  cases neg
  · by_cases h0 : num = []
    · have HQ := Lib.hid (show raw (-(qv r)) = ⟨false, num, den⟩ by rw [HE.out]; simp [h0])
      obtain rfl : k = 0 := by rw [hk, h0]; rfl
      rw [← hk] at HZ ⊢
      clear hk h0
      have m0 := blk_cell HG.out 0
      have m1 := blk_cell HG.out 1
      have m2 := blk_cell HG.out 2
      have mf := blk_frozen HG.out
      have mz := blk_lt HG.out
      simp at m0 m1 m2
      go_wp2_with fail
      all_goals try (exfalso; omega)
      have hne : w.heap.size + 1 ≠ w1.heap.size := by omega
      have hle : w.heap.size ≤ w1.heap.size := by omega
      refine bodyPost_ret (v := .agg #[.bool false, .slice A3 0 c3, .slice A4 den.length c4]) (by simp [results, Try.results39, go_sem, m0, m1, m2, mz, hne]; try omega) rfl ⟨_, rfl, ?_, ?_⟩
      · rw [HQ.out]
        obtain ⟨n9, d9, e9, hn9, hd9⟩ := HZ.out
        injection e9 with e9
        have q1 : Value.slice A3 0 c3 = n9 := by have := congrArg (fun a => a[1]?) e9; simpa using this
        have q2 : Value.slice A4 den.length c4 = d9 := by have := congrArg (fun a => a[2]?) e9; simpa using this
        rw [← q1] at hn9
        rw [← q2] at hd9
        refine ⟨_, _, rfl, ?_, ?_⟩
        · refine Rdf.mono (ok := fun x => (ok x ∧ x ≠ w.heap.size + 1) ∧ x < w1.heap.size) ?_ (fun b _ h => h.1.1)
          refine rdf_as hn9 ?_; intro h8
          repeat (first | (with_reducible exact h8) | (with_reducible refine rdf_alloc ?_ _) | (refine Rdf.set ?_ (fun h => absurd h.2 (Nat.lt_irrefl _)) _) | (refine Rdf.set ?_ (fun h => absurd rfl h.1.2) _))
        · refine Rdf.mono (ok := fun x => (ok x ∧ x ≠ w.heap.size + 1) ∧ x < w1.heap.size) ?_ (fun b _ h => h.1.1)
          refine rdf_as hd9 ?_; intro h8
          repeat (first | (with_reducible exact h8) | (with_reducible refine rdf_alloc ?_ _) | (refine Rdf.set ?_ (fun h => absurd h.2 (Nat.lt_irrefl _)) _) | (refine Rdf.set ?_ (fun h => absurd rfl h.1.2) _))
      · repeat (first | (with_reducible exact HB.out) | (with_reducible refine bl_alloc ?_ _) | (with_reducible refine bl_set ?_ (Nat.le_succ _) _) | (with_reducible refine bl_set ?_ hle _))
    · have HQ := Lib.hid (show raw (-(qv r)) = ⟨true, num, den⟩ by rw [HE.out]; simp [h0])
      have hk0 : (0 : Int) < (k : Int) := by have := List.length_pos_iff.2 h0; omega
      rw [← hk] at HZ ⊢
      clear hk h0
      have m0 := blk_cell HG.out 0
      have m1 := blk_cell HG.out 1
      have m2 := blk_cell HG.out 2
      have mf := blk_frozen HG.out
      have mz := blk_lt HG.out
      simp at m0 m1 m2
      go_wp2_with fail
      all_goals try (exfalso; omega)
      have hne : w.heap.size + 1 ≠ w1.heap.size := by omega
      have hle : w.heap.size ≤ w1.heap.size := by omega
      refine bodyPost_ret (v := .agg #[.bool true, .slice A3 k c3, .slice A4 den.length c4]) (by simp [results, Try.results39, go_sem, m0, m1, m2, mz, hne]; try omega) rfl ⟨_, rfl, ?_, ?_⟩
      · rw [HQ.out]
        obtain ⟨n9, d9, e9, hn9, hd9⟩ := HZ.out
        injection e9 with e9
        have q1 : Value.slice A3 k c3 = n9 := by have := congrArg (fun a => a[1]?) e9; simpa using this
        have q2 : Value.slice A4 den.length c4 = d9 := by have := congrArg (fun a => a[2]?) e9; simpa using this
        rw [← q1] at hn9
        rw [← q2] at hd9
        refine ⟨_, _, rfl, ?_, ?_⟩
        · refine Rdf.mono (ok := fun x => (ok x ∧ x ≠ w.heap.size + 1) ∧ x < w1.heap.size) ?_ (fun b _ h => h.1.1)
          refine rdf_as hn9 ?_; intro h8
          repeat (first | (with_reducible exact h8) | (with_reducible refine rdf_alloc ?_ _) | (refine Rdf.set ?_ (fun h => absurd h.2 (Nat.lt_irrefl _)) _) | (refine Rdf.set ?_ (fun h => absurd rfl h.1.2) _))
        · refine Rdf.mono (ok := fun x => (ok x ∧ x ≠ w.heap.size + 1) ∧ x < w1.heap.size) ?_ (fun b _ h => h.1.1)
          refine rdf_as hd9 ?_; intro h8
          repeat (first | (with_reducible exact h8) | (with_reducible refine rdf_alloc ?_ _) | (refine Rdf.set ?_ (fun h => absurd h.2 (Nat.lt_irrefl _)) _) | (refine Rdf.set ?_ (fun h => absurd rfl h.1.2) _))
      · repeat (first | (with_reducible exact HB.out) | (with_reducible refine bl_alloc ?_ _) | (with_reducible refine bl_set ?_ (Nat.le_succ _) _) | (with_reducible refine bl_set ?_ hle _))
  · have HQ := Lib.hid (show raw (-(qv r)) = ⟨false, num, den⟩ by rw [HE.out]; simp)
    rw [← hk] at HZ ⊢
    clear hk
    have m0 := blk_cell HG.out 0
    have m1 := blk_cell HG.out 1
    have m2 := blk_cell HG.out 2
    have mf := blk_frozen HG.out
    have mz := blk_lt HG.out
    simp at m0 m1 m2
    go_wp2_with fail
    all_goals try (exfalso; omega)
    have hne : w.heap.size + 1 ≠ w1.heap.size := by omega
    have hle : w.heap.size ≤ w1.heap.size := by omega
    refine bodyPost_ret (v := .agg #[.bool false, .slice A3 k c3, .slice A4 den.length c4]) (by simp [results, Try.results39, go_sem, m0, m1, m2, mz, hne]; try omega) rfl ⟨_, rfl, ?_, ?_⟩
    · rw [HQ.out]
      obtain ⟨n9, d9, e9, hn9, hd9⟩ := HZ.out
      injection e9 with e9
      have q1 : Value.slice A3 k c3 = n9 := by have := congrArg (fun a => a[1]?) e9; simpa using this
      have q2 : Value.slice A4 den.length c4 = d9 := by have := congrArg (fun a => a[2]?) e9; simpa using this
      rw [← q1] at hn9
      rw [← q2] at hd9
      refine ⟨_, _, rfl, ?_, ?_⟩
      · refine Rdf.mono (ok := fun x => (ok x ∧ x ≠ w.heap.size + 1) ∧ x < w1.heap.size) ?_ (fun b _ h => h.1.1)
        refine rdf_as hn9 ?_; intro h8
        repeat (first | (with_reducible exact h8) | (with_reducible refine rdf_alloc ?_ _) | (refine Rdf.set ?_ (fun h => absurd h.2 (Nat.lt_irrefl _)) _) | (refine Rdf.set ?_ (fun h => absurd rfl h.1.2) _))
      · refine Rdf.mono (ok := fun x => (ok x ∧ x ≠ w.heap.size + 1) ∧ x < w1.heap.size) ?_ (fun b _ h => h.1.1)
        refine rdf_as hd9 ?_; intro h8
        repeat (first | (with_reducible exact h8) | (with_reducible refine rdf_alloc ?_ _) | (refine Rdf.set ?_ (fun h => absurd h.2 (Nat.lt_irrefl _)) _) | (refine Rdf.set ?_ (fun h => absurd rfl h.1.2) _))
    · repeat (first | (with_reducible exact HB.out) | (with_reducible refine bl_alloc ?_ _) | (with_reducible refine bl_set ?_ (Nat.le_succ _) _) | (with_reducible refine bl_set ?_ hle _))
set_option maxRecDepth 100000 in
set_option maxHeartbeats 4000000 in
theorem abs_any (ok : Nat → Prop) (v : Value) (r : Raw) (w : World) (hok : ∀ b, w.heap.size ≤ b → ok b) (h : RdR w v r) (g : Good 4000000 r) :
    Calls Try.prog 41 #[v] w fun e w' => ∃ z, e = .returned z ∧ RdRaw w' ok z (raw (rabs (qv r))) ∧ Below w.heap.size w w' := by
  have HR := Lib.hid h
  have GR := Lib.hid g
  obtain ⟨n1, d1, rfl, hn1, hd1⟩ := h
  obtain ⟨A1, c1, rfl, _, _⟩ := hn1.len
  obtain ⟨A2, c2, rfl, _, _⟩ := hd1.len
  clear hn1 hd1 g
  go_enter Try.func41, Try.ntmps41
  go_wp2_with fail
  have HA := Lib.hid (show Below w.heap.size w ((w.alloc (.cells #[.bool r.neg, .slice A1 r.num.length c1, .slice A2 r.den.length c2] 24)).alloc (.cells #[.bool false, .slice none 0 0, .slice none 0 0] 24)) from bl_alloc (bl_alloc (Below.refl _ _) _) _)
  refine (canon_any (fun x => ok x ∧ x ≠ w.heap.size + 1) _ r _ ?_ (HR.out.below HA.out) (GR.out.le (by omega))).mono ?_
  · intro b hb
    simp at hb
    exact ⟨hok b (by omega), by omega⟩
  rintro e w1 ⟨z1, rfl, hz1, hb1⟩
  have HZ := Lib.hid hz1.bd
  have HB := Lib.hid (bl_call HA.out hb1)
  have HG := Lib.hid (blk_below (blk_new' (w := w.alloc (.cells #[.bool r.neg, .slice A1 r.num.length c1, .slice A2 r.den.length c2] 24)) (g := w.heap.size + 1) (by simp) (.cells #[.bool false, .slice none 0 0, .slice none 0 0] 24)) hb1)
  obtain ⟨n3, d3, rfl, hn3, hd3⟩ := hz1
  obtain ⟨A3, c3, rfl, _, _⟩ := hn3.len
  obtain ⟨A4, c4, rfl, _, _⟩ := hd3.len
  clear hn3 hd3 hb1
  obtain ⟨Z, hZ⟩ : ∃ Z, Z = raw (qv r) := ⟨_, rfl⟩
  have HQ := Lib.hid (raw_rabs (qv r))
  rw [← hZ] at HQ HZ ⊢
  clear hZ
  obtain ⟨neg, num, den⟩ := Z
  simp only at HQ HZ ⊢
  obtain ⟨k, hk⟩ : ∃ k, k = num.length := ⟨_, rfl⟩
  rw [← hk] at HZ ⊢
  clear hk
  have m0 := blk_cell HG.out 0
  have m1 := blk_cell HG.out 1
  have m2 := blk_cell HG.out 2
  have mf := blk_frozen HG.out
  have mz := blk_lt HG.out
  simp at m0 m1 m2
  go_wp2_with fail
  all_goals try (exfalso; omega)
  have hne : w.heap.size + 1 ≠ w1.heap.size := by omega
  have hle : w.heap.size ≤ w1.heap.size := by omega
  refine bodyPost_ret (v := .agg #[.bool false, .slice A3 k c3, .slice A4 den.length c4]) (by simp [results, Try.results41, go_sem, m0, m1, m2, mz, hne]; try omega) rfl ⟨_, rfl, ?_, ?_⟩
  · rw [HQ.out]
    obtain ⟨n9, d9, e9, hn9, hd9⟩ := HZ.out
    injection e9 with e9
    have q1 : Value.slice A3 k c3 = n9 := by have := congrArg (fun a => a[1]?) e9; simpa using this
    have q2 : Value.slice A4 den.length c4 = d9 := by have := congrArg (fun a => a[2]?) e9; simpa using this
    rw [← q1] at hn9
    rw [← q2] at hd9
    refine ⟨_, _, rfl, ?_, ?_⟩
    · refine Rdf.mono (ok := fun x => (ok x ∧ x ≠ w.heap.size + 1) ∧ x < w1.heap.size) ?_ (fun b _ h => h.1.1)
      refine rdf_as hn9 ?_; intro h8
      repeat (first | (with_reducible exact h8) | (with_reducible refine rdf_alloc ?_ _) | (refine Rdf.set ?_ (fun h => absurd h.2 (Nat.lt_irrefl _)) _) | (refine Rdf.set ?_ (fun h => absurd rfl h.1.2) _))
    · refine Rdf.mono (ok := fun x => (ok x ∧ x ≠ w.heap.size + 1) ∧ x < w1.heap.size) ?_ (fun b _ h => h.1.1)
      refine rdf_as hd9 ?_; intro h8
      repeat (first | (with_reducible exact h8) | (with_reducible refine rdf_alloc ?_ _) | (refine Rdf.set ?_ (fun h => absurd h.2 (Nat.lt_irrefl _)) _) | (refine Rdf.set ?_ (fun h => absurd rfl h.1.2) _))
  · repeat (first | (with_reducible exact HB.out) | (with_reducible refine bl_alloc ?_ _) | (with_reducible refine bl_set ?_ (Nat.le_succ _) _) | (with_reducible refine bl_set ?_ hle _))
end Go.Proofs.Ytikpdkgamcecjaa
