/- Walks: made. -/
import Derived.Test.YtikpdkgamcecjaaR11
namespace Go.Proofs.Ytikpdkgamcecjaa
open Go.RowKit
set_option linter.unusedSimpArgs false
set_option linter.unusedVariables false

/-- A number in memory, with the blocks it lies in. -/
def RdRaw (w : World) (ok : Nat → Prop) (v : Value) (r : Raw) : Prop := ∃ n d, v = .agg #[.bool r.neg, n, d] ∧ Rdf .u32 w ok n r.num ∧ Rdf .u32 w ok d r.den
section
variable {w w1 : World} {ok ok' : Nat → Prop} {v : Value} {r : Raw}
theorem RdRaw.below (h : RdRaw w ok v r) (hb : Below w.heap.size w w1) : RdRaw w1 ok v r := by
  obtain ⟨n, d, h1, h2, h3⟩ := h
  exact ⟨n, d, h1, h2.below hb, h3.below hb⟩
theorem RdRaw.mono (h : RdRaw w ok v r) (hok : ∀ b, b < w.heap.size → ok b → ok' b) : RdRaw w ok' v r := by
  obtain ⟨n, d, h1, h2, h3⟩ := h
  exact ⟨n, d, h1, h2.mono hok, h3.mono hok⟩
theorem RdRaw.set (h : RdRaw w ok v r) {a : Addr} (hne : ¬ ok a.block) (u : Value) : RdRaw (w.setCell a u) ok v r := by
  obtain ⟨n, d, h1, h2, h3⟩ := h
  exact ⟨n, d, h1, h2.set hne u, h3.set hne u⟩
end
theorem Rdf.len {k : IntKind} {w : World} {ok : Nat → Prop} {v : Value} {xs : List Int} (h : Rdf k w ok v xs) : ∃ A c, v = .slice A xs.length c ∧ xs.length ≤ 9223372036854775807 ∧ xs.length ≤ c := by
  obtain ⟨A, c, h1, ⟨h2, h3⟩, _⟩ := h.now
  exact ⟨A, c, h1, h2, h3⟩

set_option maxHeartbeats 2000000 in
theorem made_zero (ok : Nat → Prop) (neg : Bool) (v u : Value) (w : World) (hok : ∀ b, w.heap.size ≤ b → ok b) (hx : Rd .u32 w v (limbs 0)) :
    Calls Try.prog 57 #[.bool neg, v, u] w fun e w' => ∃ r, e = .returned r ∧ RdRaw w' ok r (raw 0) ∧ Below w.heap.size w w' := by
  have HOK := Lib.hid hok
  rw [limbs_zero] at hx
  obtain ⟨A, c, rfl, l1, l2⟩ := hx.foot.len
  have t1 : (([] : List Int).length) = 0 := rfl
  rw [t1]
  clear hx hok
  go_enter Try.func57, Try.ntmps57
  go_wp2
  refine bodyPost_ret (v := .agg #[.bool false, .slice none 0 0, .slice (some ⟨w.heap.size + 1, 0, none⟩) 1 1]) (by simp [results, Try.results57, go_sem]) rfl ⟨_, rfl, ?_, ?_⟩
  · rw [raw_zero]
    refine ⟨_, _, rfl, Rdf.nil _ _ _ _, ?_⟩
    exact one_limb (g := w.heap.size + 1) _ _ 1 (by simp) (HOK.out _ (by omega))
  · repeat (first | exact Below.refl _ _ | apply bl_alloc | (refine bl_set ?_ (by simp) _))

set_option maxRecDepth 100000 in
set_option maxHeartbeats 8000000 in
theorem made_pos (ok : Nat → Prop) (neg : Bool) (v u : Value) (a b : Nat) (w : World) (hok : ∀ b, w.heap.size ≤ b → ok b) (hx : Rd .u32 w v (limbs a)) (hy : Rd .u32 w u (limbs b)) (ha : a ≠ 0) (hb : b ≠ 0) (hn : (limbs a).length ≤ 16777216) (hm : (limbs b).length ≤ 16777216) :
    Calls Try.prog 57 #[.bool neg, v, u] w fun e w' => ∃ r, e = .returned r ∧ RdRaw w' ok r (raw (mkRat (sg neg a) b)) ∧ Below w.heap.size w w' := by
  have HE := Lib.hid (raw_made neg a b ha hb)
  obtain ⟨g, hg⟩ : ∃ g, g = a.gcd b := ⟨_, rfl⟩
  have HGE := Lib.hid hg
  have hgp : g ≠ 0 := by rw [hg]; have := Nat.gcd_pos_of_pos_left b (Nat.pos_of_ne_zero ha); omega
  rw [← hg] at HE
  clear hg
  have HGP := Lib.hid hgp
  have hna := limbs_len_div a g
  have hnb := limbs_len_div b g
  have hbx := Lib.hid (show Below w.heap.size w (w.alloc (.cells #[.bool false, .slice none 0 0, .slice none 0 0] 24)) from bl_alloc (Below.refl _ _) _)
  have HX := Lib.hid (Rdf.below (hx.foot.mono (ok' := fun x => x ≠ w.heap.size) (fun b h1 h2 => by omega)) hbx.out)
  have HY := Lib.hid (Rdf.below (hy.foot.mono (ok' := fun x => x ≠ w.heap.size) (fun b h1 h2 => by omega)) hbx.out)
  have HOK := Lib.hid (show ∀ W : World, w.heap.size + 1 ≤ W.heap.size → ∀ b, W.heap.size ≤ b → ok b ∧ b ≠ w.heap.size from fun W h b h2 => ⟨hok b (by omega), by omega⟩)
  have HOZ := Lib.hid (show ∀ W : World, w.heap.size + 1 ≤ W.heap.size → ∀ b, W.heap.size ≤ b → b ≠ w.heap.size from fun W h b h2 => by omega)
  have GB := Lib.hid (blk_new w (.cells #[.bool false, .slice none 0 0, .slice none 0 0] 24))
  obtain ⟨A, c1, rfl, l1, l2⟩ := hx.foot.len
  obtain ⟨A2, c2, rfl, l3, l4⟩ := hy.foot.len
  have t1 : (((limbs a).length : Int) == 0) = false := by
    have h1 : limbs a ≠ [] := fun e => ha (limbs_eq_nil.1 e)
    have h2 := List.length_pos_iff.2 h1
    simpa using h1
  have HA := Lib.hid ha
  have HB := Lib.hid hb
  have hgl := limbs_mono (show g ≤ a by rw [HGE.out]; exact Nat.gcd_le_left b (Nat.pos_of_ne_zero ha))
  clear hx hy hok ha hb hgp
  by_cases hc1 : 1 < (limbs g).length
  · have t2 : decide (1 < (limbs g).length) = true := by simpa using hc1
    go_enter Try.func57, Try.ntmps57
    go_wp2_with fail
    refine (gcd_any (fun x => x ≠ w.heap.size) _ _ a b _ (HOZ.out _ (by simp)) HX.out HY.out hn hm).mono ?_
    rw [← HGE.out]
    rintro e w1 ⟨r1, rfl, hr1, hb1⟩
    have HR1 := Lib.hid hr1
    have HB1 := Lib.hid hb1
    have hs1 : w.heap.size + 1 ≤ w1.heap.size := by have := hb1.size; simpa using this
    obtain ⟨A3, c3, rfl, l5, l6⟩ := hr1.len
    clear hr1
    clear hb1
    go_wp2_with fail
    refine (div_any (fun x => x ≠ w.heap.size) _ _ a g _ (HOZ.out _ hs1) (HX.out.below HB1.out) HR1.out HGP.out hn).mono ?_
    rintro e w2 ⟨q1, r2, rfl, hq1, hr2, hb2⟩
    have HQ1 := Lib.hid hq1
    have HR1' := Lib.hid (HR1.out.below hb2)
    have HB2 := Lib.hid (bl_call HB1.out hb2)
    have hs2 : w.heap.size + 1 ≤ w2.heap.size := by have := hb2.size; omega
    clear hq1 hr2 hb2
    go_wp2_with fail
    refine (div_any (fun x => x ≠ w.heap.size) _ _ b g _ (HOZ.out _ hs2) (HY.out.below HB2.out) HR1'.out HGP.out hm).mono ?_
    rintro e w3 ⟨q2, r3, rfl, hq2, hr3, hb3⟩
    have HQ2 := Lib.hid hq2
    have HQ1' := Lib.hid (HQ1.out.below hb3)
    have HB3 := Lib.hid (bl_call HB2.out hb3)
    have hs3 : w.heap.size + 1 ≤ w3.heap.size := by have := hb3.size; omega
    clear hq2 hr3 hb3
    go_wp2_with fail
    refine (clone_u32 (fun x => ok x ∧ x ≠ w.heap.size) _ _ _ (HOK.out _ hs3) HQ1'.out.now (by omega)).mono ?_
    rintro e w4 ⟨n1, rfl, hn1, hb4⟩
    have HN1 := Lib.hid hn1
    have HQ2' := Lib.hid (HQ2.out.below hb4)
    have HB4 := Lib.hid (bl_call HB3.out hb4)
    have hs4 : w.heap.size + 1 ≤ w4.heap.size := by have := hb4.size; omega
    obtain ⟨A4, c4, rfl, l7, l8⟩ := hn1.len
    clear hn1 hb4
    go_wp2_with fail
    refine (clone_u32 (fun x => ok x ∧ x ≠ w.heap.size) _ _ _ (HOK.out _ hs4) HQ2'.out.now (by omega)).mono ?_
    rintro e w5 ⟨n2, rfl, hn2, hb5⟩
    have HN2 := Lib.hid hn2
    have HN1' := Lib.hid (HN1.out.below hb5)
    have HB5 := Lib.hid (bl_call HB4.out hb5)
    obtain ⟨A5, c5, rfl, l9, l10⟩ := hn2.len
    clear hn2 hb5
    have g5 := blk_below GB.out HB5.out
    have m0 := blk_cell g5 0
    have m1 := blk_cell g5 1
    have m2 := blk_cell g5 2
    have mf := blk_frozen g5
    simp at m0 m1 m2
    clear g5
    go_wp2_with fail
    refine bodyPost_ret (v := .agg #[.bool neg, .slice A4 (limbs (a / g)).length c4, .slice A5 (limbs (b / g)).length c5]) (by simp [results, Try.results57, go_sem, m0, m1, m2]) rfl ⟨_, rfl, ?_, ?_⟩
    · rw [HE.out]
      refine ⟨_, _, rfl, ?_, ?_⟩
      · exact (((HN1'.out.set (fun h => h.2 rfl) _).set (fun h => h.2 rfl) _).set (fun h => h.2 rfl) _).mono (fun b _ h => h.1)
      · exact (((HN2.out.set (fun h => h.2 rfl) _).set (fun h => h.2 rfl) _).set (fun h => h.2 rfl) _).mono (fun b _ h => h.1)
    · exact bl_set (bl_set (bl_set (bl_call hbx.out HB5.out) (by simp) _) (by simp) _) (by simp) _
  · obtain ⟨g0, hg0⟩ : ∃ g0, limbs g = [g0] := by
      have h1 : limbs g ≠ [] := fun e => HGP.out (limbs_eq_nil.1 e)
      cases hl : limbs g with
      | nil => exact absurd hl h1
      | cons x l => cases l with
        | nil => exact ⟨x, rfl⟩
        | cons y l => rw [hl] at hc1; simp at hc1
    have hgv : (g : Int) = g0 := by have := val_limbs g; rw [hg0] at this; simp [val] at this; omega
    have HG0 := Lib.hid hg0
    have HGV := Lib.hid hgv
    clear hg0 hgv hc1
    by_cases hc2 : 1 < g0
    · have t2 : decide (1 < g0) = true := by simpa using hc2
      go_enter Try.func57, Try.ntmps57
      go_wp2_with fail
      refine (gcd_any (fun x => x ≠ w.heap.size) _ _ a b _ (HOZ.out _ (by simp)) HX.out HY.out hn hm).mono ?_
      rw [← HGE.out]
      rintro e w1 ⟨r1, rfl, hr1, hb1⟩
      have HR1 := Lib.hid hr1
      have HB1 := Lib.hid hb1
      have hs1 : w.heap.size + 1 ≤ w1.heap.size := by have := hb1.size; simpa using this
      rw [HG0.out] at hr1
      obtain ⟨A3, c3, rfl, ⟨l5, l6⟩, hcl⟩ := hr1.now
      obtain ⟨ad, rfl, hcell⟩ := hcl.resolve_left (by simp)
      have hcg := hcell 0 (by simp)
      rw [show ad.add 0 = ad by simp [Addr.add]] at hcg
      simp only [List.length_singleton, List.getD_cons_zero] at hcg l5 l6
      clear hcl hcell hr1
      clear hb1
      go_wp2_with fail
      refine (div_any (fun x => x ≠ w.heap.size) _ _ a g _ (HOZ.out _ hs1) (HX.out.below HB1.out) HR1.out HGP.out hn).mono ?_
      rintro e w2 ⟨q1, r2, rfl, hq1, hr2, hb2⟩
      have HQ1 := Lib.hid hq1
      have HR1' := Lib.hid (HR1.out.below hb2)
      have HB2 := Lib.hid (bl_call HB1.out hb2)
      have hs2 : w.heap.size + 1 ≤ w2.heap.size := by have := hb2.size; omega
      clear hq1 hr2 hb2
      go_wp2_with fail
      refine (div_any (fun x => x ≠ w.heap.size) _ _ b g _ (HOZ.out _ hs2) (HY.out.below HB2.out) HR1'.out HGP.out hm).mono ?_
      rintro e w3 ⟨q2, r3, rfl, hq2, hr3, hb3⟩
      have HQ2 := Lib.hid hq2
      have HQ1' := Lib.hid (HQ1.out.below hb3)
      have HB3 := Lib.hid (bl_call HB2.out hb3)
      have hs3 : w.heap.size + 1 ≤ w3.heap.size := by have := hb3.size; omega
      clear hq2 hr3 hb3
      go_wp2_with fail
      refine (clone_u32 (fun x => ok x ∧ x ≠ w.heap.size) _ _ _ (HOK.out _ hs3) HQ1'.out.now (by omega)).mono ?_
      rintro e w4 ⟨n1, rfl, hn1, hb4⟩
      have HN1 := Lib.hid hn1
      have HQ2' := Lib.hid (HQ2.out.below hb4)
      have HB4 := Lib.hid (bl_call HB3.out hb4)
      have hs4 : w.heap.size + 1 ≤ w4.heap.size := by have := hb4.size; omega
      obtain ⟨A4, c4, rfl, l7, l8⟩ := hn1.len
      clear hn1 hb4
      go_wp2_with fail
      refine (clone_u32 (fun x => ok x ∧ x ≠ w.heap.size) _ _ _ (HOK.out _ hs4) HQ2'.out.now (by omega)).mono ?_
      rintro e w5 ⟨n2, rfl, hn2, hb5⟩
      have HN2 := Lib.hid hn2
      have HN1' := Lib.hid (HN1.out.below hb5)
      have HB5 := Lib.hid (bl_call HB4.out hb5)
      obtain ⟨A5, c5, rfl, l9, l10⟩ := hn2.len
      clear hn2 hb5
      have g5 := blk_below GB.out HB5.out
      have m0 := blk_cell g5 0
      have m1 := blk_cell g5 1
      have m2 := blk_cell g5 2
      have mf := blk_frozen g5
      simp at m0 m1 m2
      clear g5
      go_wp2_with fail
      refine bodyPost_ret (v := .agg #[.bool neg, .slice A4 (limbs (a / g)).length c4, .slice A5 (limbs (b / g)).length c5]) (by simp [results, Try.results57, go_sem, m0, m1, m2]) rfl ⟨_, rfl, ?_, ?_⟩
      · rw [HE.out]
        refine ⟨_, _, rfl, ?_, ?_⟩
        · exact (((HN1'.out.set (fun h => h.2 rfl) _).set (fun h => h.2 rfl) _).set (fun h => h.2 rfl) _).mono (fun b _ h => h.1)
        · exact (((HN2.out.set (fun h => h.2 rfl) _).set (fun h => h.2 rfl) _).set (fun h => h.2 rfl) _).mono (fun b _ h => h.1)
      · exact bl_set (bl_set (bl_set (bl_call hbx.out HB5.out) (by simp) _) (by simp) _) (by simp) _
    · have t2 : decide (1 < g0) = false := by simpa using hc2
      have hgone : g = 1 := by have h1 := HGV.out; have h2 := HGP.out; omega
      have HONE := Lib.hid hgone
      clear hgone
      go_enter Try.func57, Try.ntmps57
      go_wp2_with fail
      refine (gcd_any (fun x => x ≠ w.heap.size) _ _ a b _ (HOZ.out _ (by simp)) HX.out HY.out hn hm).mono ?_
      rw [← HGE.out]
      rintro e w1 ⟨r1, rfl, hr1, hb1⟩
      have HR1 := Lib.hid hr1
      have HB1 := Lib.hid hb1
      have hs1 : w.heap.size + 1 ≤ w1.heap.size := by have := hb1.size; simpa using this
      rw [HG0.out] at hr1
      obtain ⟨A3, c3, rfl, ⟨l5, l6⟩, hcl⟩ := hr1.now
      obtain ⟨ad, rfl, hcell⟩ := hcl.resolve_left (by simp)
      have hcg := hcell 0 (by simp)
      rw [show ad.add 0 = ad by simp [Addr.add]] at hcg
      simp only [List.length_singleton, List.getD_cons_zero] at hcg l5 l6
      clear hcl hcell hr1
      clear hb1
      have HQ1' := Lib.hid (show Rdf .u32 w1 (fun x => x ≠ w.heap.size) _ (limbs (a / g)) by rw [HONE.out, Nat.div_one]; exact HX.out.below HB1.out)
      have HQ2 := Lib.hid (show Rdf .u32 w1 (fun x => x ≠ w.heap.size) _ (limbs (b / g)) by rw [HONE.out, Nat.div_one]; exact HY.out.below HB1.out)
      have HB3 := HB1
      obtain ⟨w3, rfl⟩ : ∃ w3, w3 = w1 := ⟨_, rfl⟩
      have hs3 := hs1
      go_wp2_with fail
      refine (clone_u32 (fun x => ok x ∧ x ≠ w.heap.size) _ _ _ (HOK.out _ hs3) HQ1'.out.now (by omega)).mono ?_
      rintro e w4 ⟨n1, rfl, hn1, hb4⟩
      have HN1 := Lib.hid hn1
      have HQ2' := Lib.hid (HQ2.out.below hb4)
      have HB4 := Lib.hid (bl_call HB3.out hb4)
      have hs4 : w.heap.size + 1 ≤ w4.heap.size := by have := hb4.size; omega
      obtain ⟨A4, c4, rfl, l7, l8⟩ := hn1.len
      clear hn1 hb4
      go_wp2_with fail
      refine (clone_u32 (fun x => ok x ∧ x ≠ w.heap.size) _ _ _ (HOK.out _ hs4) HQ2'.out.now (by omega)).mono ?_
      rintro e w5 ⟨n2, rfl, hn2, hb5⟩
      have HN2 := Lib.hid hn2
      have HN1' := Lib.hid (HN1.out.below hb5)
      have HB5 := Lib.hid (bl_call HB4.out hb5)
      obtain ⟨A5, c5, rfl, l9, l10⟩ := hn2.len
      clear hn2 hb5
      have g5 := blk_below GB.out HB5.out
      have m0 := blk_cell g5 0
      have m1 := blk_cell g5 1
      have m2 := blk_cell g5 2
      have mf := blk_frozen g5
      simp at m0 m1 m2
      clear g5
      go_wp2_with fail
      refine bodyPost_ret (v := .agg #[.bool neg, .slice A4 (limbs (a / g)).length c4, .slice A5 (limbs (b / g)).length c5]) (by simp [results, Try.results57, go_sem, m0, m1, m2]) rfl ⟨_, rfl, ?_, ?_⟩
      · rw [HE.out]
        refine ⟨_, _, rfl, ?_, ?_⟩
        · exact (((HN1'.out.set (fun h => h.2 rfl) _).set (fun h => h.2 rfl) _).set (fun h => h.2 rfl) _).mono (fun b _ h => h.1)
        · exact (((HN2.out.set (fun h => h.2 rfl) _).set (fun h => h.2 rfl) _).set (fun h => h.2 rfl) _).mono (fun b _ h => h.1)
      · exact bl_set (bl_set (bl_set (bl_call hbx.out HB5.out) (by simp) _) (by simp) _) (by simp) _
end Go.Proofs.Ytikpdkgamcecjaa
