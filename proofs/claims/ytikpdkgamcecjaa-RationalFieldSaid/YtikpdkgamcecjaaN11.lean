/- Walks of the reference: build. -/
import Derived.Test.YtikpdkgamcecjaaN10
namespace Go.Proofs.Ytikpdkgamcecjaa
open Go.RowKit
set_option linter.unusedSimpArgs false
set_option linter.unusedVariables false

theorem rdf_one {w : World} {g : Nat} {t : TypeId} {ok : Nat → Prop} (h : w.heap[g]? = some (.cells #[.int .u32 1] t (0, 0))) (hok : ok g) : Rdf .u32 w ok (.slice (some ⟨g, 0, none⟩) 1 1) [1] := by
  refine rdf_blk (xs := [1]) h rfl (by simp) (by simp) (fun j hj => ?_) hok
  have : j = 0 := by
    simp at hj; exact hj
  subst this
  rfl
set_option maxRecDepth 100000 in
set_option maxHeartbeats 8000000 in
theorem build_any (ok : Nat → Prop) (neg : Bool) (v u : Value) (xs ys : List Int) (w : World) (hok : ∀ b, w.heap.size ≤ b → ok b) (hx : Rd .u32 w v xs) (hy : Rd .u32 w u ys) (ux : U32 xs) (uy : U32 ys) (nx : xs.length ≤ 1000000) (ny : ys.length ≤ 1000000) :
    Calls Try.prog 59 #[.bool neg, v, u] w fun e w' => ∃ z, e = .returned z ∧ RdRaw w' ok z (raw (mkRat (sg neg (val xs).toNat) (val ys).toNat)) ∧ Below w.heap.size w w' := by
  have HX := Lib.hid hx
  have HY := Lib.hid hy
  have HUX := Lib.hid ux
  have HUY := Lib.hid uy
  have HOK := Lib.hid (show ∀ W : World, w.heap.size + 1 ≤ W.heap.size → ∀ b, W.heap.size ≤ b → ok b ∧ b ≠ w.heap.size from fun W h b h2 => ⟨hok b (by omega), by omega⟩)
  have LA := Lib.hid (u32_len ux).2
  have LB := Lib.hid (u32_len uy).2
  obtain ⟨a, ha⟩ : ∃ a, a = (val xs).toNat := ⟨_, rfl⟩
  obtain ⟨b, hb⟩ : ∃ b, b = (val ys).toNat := ⟨_, rfl⟩
  rw [← ha] at LA
  rw [← hb] at LB
  have HNA := Lib.hid (fun ok v W hok h => rnat_any ok v xs W hok h HUX.out (by omega))
  have HNB := Lib.hid (fun ok v W hok h => rnat_any ok v ys W hok h HUY.out (by omega))
  rw [← ha] at HNA
  rw [← hb] at HNB
  have HA := Lib.hid ha
  have HB := Lib.hid hb
  obtain ⟨A, c1, rfl, l1, _⟩ := hx
  obtain ⟨A2, c2, rfl, l2, _⟩ := hy
  clear ux uy hok ha hb
  go_enter Try.func59, Try.ntmps59
  go_wp2_with fail
  refine (HNA.out (fun x => ok x ∧ x ≠ w.heap.size) _ _ (HOK.out _ (by simp)) (HX.out.below (bl_alloc (Below.refl _ _) _))).mono ?_
  rintro e w1 ⟨r1, rfl, hr1, hb1⟩
  have HR1 := Lib.hid hr1
  have HG1 := Lib.hid (blk_below (blk_new w (.cells #[.bool false, .slice none 0 0, .slice none 0 0] 24)) hb1)
  have HB1 := Lib.hid (bl_call (bl_alloc (Below.refl _ _) _) hb1)
  have z1 : w.heap.size + 1 ≤ w1.heap.size := by have := hb1.size; simp at this; omega
  clear hr1 hb1
  go_wp2_with fail
  refine (HNB.out (fun x => ok x ∧ x ≠ w.heap.size) _ _ (HOK.out _ z1) (HY.out.below HB1.out)).mono ?_
  rintro e w2 ⟨r2, rfl, hr2, hb2⟩
  have HR2 := Lib.hid hr2
  have HR12 := Lib.hid (HR1.out.below hb2)
  have HG2 := Lib.hid (blk_below HG1.out hb2)
  have HB2 := Lib.hid (bl_call HB1.out hb2)
  have z2 : w.heap.size + 1 ≤ w2.heap.size := by have := hb2.size; omega
  have m0 := blk_cell HG2.out 0
  have m1 := blk_cell HG2.out 1
  have m2 := blk_cell HG2.out 2
  have mf := blk_frozen HG2.out
  simp at m0 m1 m2
  obtain ⟨A3, c3, rfl, _, _⟩ := HR12.out.len
  obtain ⟨A4, c4, rfl, _, _⟩ := hr2.len
  clear hr2 hb2
  have mz : w.heap.size < w2.heap.size := by omega
  obtain ⟨la, hla⟩ : ∃ n, n = (limbs a).length := ⟨_, rfl⟩
  obtain ⟨lb, hlb⟩ : ∃ n, n = (limbs b).length := ⟨_, rfl⟩
  rw [← hla] at HR12 ⊢
  rw [← hlb] at HR2 ⊢
  by_cases hz : a = 0 ∨ b = 0
  · have HQ := Lib.hid (show raw (mkRat (sg neg (val xs).toNat) (val ys).toNat) = ⟨false, [], [1]⟩ by
      rw [← HA.out, ← HB.out, ← raw_zero]
      rcases hz with h | h
      · rw [h]; unfold sg; cases neg <;> simp [Rat.zero_mkRat]
      · rw [h, Rat.mkRat_zero])
    have hl0 : la = 0 ∨ lb = 0 := by
      rcases hz with h | h
      · left; simp [hla, h, limbs_zero]
      · right; simp [hlb, h, limbs_zero]
    clear hz hla hlb
    rcases hl0 with h0 | h0
    all_goals
      subst h0
      go_wp2_with fail
      all_goals try (exfalso; omega)
    all_goals
      refine bodyPost_ret (v := .agg #[.bool false, .slice none 0 0, .slice (some ⟨w2.heap.size, 0, none⟩) 1 1]) (by simp [results, Try.results59, go_sem, m0, m1, m2, mz]) rfl ⟨_, rfl, ?_, ?_⟩
      · rw [HQ.out]
        refine ⟨_, _, rfl, Rdf.nil _ _ _ _, ?_⟩
        have hne : w2.heap.size ≠ w.heap.size := by omega
        have hgo : ok w2.heap.size := (HOK.out w2 z2 _ (Nat.le_refl _)).1
        refine rdf_one (t := 43) ?_ hgo
        repeat (first | (with_reducible exact blk_new _ _) | (focus ((with_reducible refine blk_new' ?_ _); (simp; done))) | (with_reducible refine blk_far ?_ hne _) | (with_reducible refine blk_alloc ?_ _))
      · repeat (first | (with_reducible exact HB2.out) | (with_reducible refine bl_alloc ?_ _) | (with_reducible refine bl_set ?_ (Nat.le_refl _) _))
  · have ha0 : a ≠ 0 := fun h => hz (.inl h)
    have hb0 : b ≠ 0 := fun h => hz (.inr h)
    have hl1 : la ≠ 0 := by rw [hla]; exact fun h => ha0 (limbs_eq_nil.1 (List.eq_nil_of_length_eq_zero h))
    have hl2 : lb ≠ 0 := by rw [hlb]; exact fun h => hb0 (limbs_eq_nil.1 (List.eq_nil_of_length_eq_zero h))
    have t1 : ((la : Int) == 0) = false := by simpa using hl1
    have t2 : ((lb : Int) == 0) = false := by simpa using hl2
    have HQ := Lib.hid (show raw (mkRat (sg neg (val xs).toNat) (val ys).toNat) = ⟨neg, limbs (a / a.gcd b), limbs (b / a.gcd b)⟩ by
      rw [← HA.out, ← HB.out]; exact raw_made neg a b ha0 hb0)
    have HGC := Lib.hid (rgcd_any (.slice A3 la c3) (.slice A4 lb c4) a b w2 HR12.out.now HR2.out.now (by have := LA.out; omega) (by have := LB.out; omega))
    have HG0 := Lib.hid (show a.gcd b ≠ 0 from fun h => ha0 (Nat.eq_zero_of_gcd_eq_zero_left h))
    obtain ⟨g, hg⟩ : ∃ g, g = a.gcd b := ⟨_, rfl⟩
    have hgl : (limbs g).length ≤ 4000000 := by
      have h8 : g ≤ a := by rw [hg]; exact Nat.le_of_dvd (by omega) (Nat.gcd_dvd_left a b)
      have h9 := limbs_mono h8
      have := LA.out
      omega
    rw [← hg] at HQ HGC HG0
    clear hz ha0 hb0 hl1 hl2 hla hlb hg
    go_wp2_with fail
    refine HGC.out.mono ?_
    rintro e w3 ⟨r3, rfl, hr3, hb3⟩
    have HR3 := Lib.hid hr3
    have HG3 := Lib.hid (blk_below HG2.out hb3)
    have HB3 := Lib.hid (bl_call HB2.out hb3)
    have HP := Lib.hid (HR12.out.below hb3)
    have HPD := Lib.hid (HR2.out.below hb3)
    have z3 : w.heap.size + 1 ≤ w3.heap.size := by have := hb3.size; omega
    clear m0 m1 m2 mf mz hb3
    have m0 := blk_cell HG3.out 0
    have m1 := blk_cell HG3.out 1
    have m2 := blk_cell HG3.out 2
    have mf := blk_frozen HG3.out
    simp at m0 m1 m2
    by_cases hg1 : g = 1
    · subst hg1
      rw [limbs_one] at hr3
      obtain ⟨A5, c5, rfl, _, x5⟩ := hr3
      obtain ⟨ad, rfl, hcell⟩ := x5.resolve_left (by simp)
      have d0 : w3.cell? (ad.add 0) = some (.int .u32 1) := hcell 0 (by simp)
      have d1 : w3.cell? ad = some (.int .u32 1) := by
        have e9 : ad.add 0 = ad := by unfold Addr.add; simp
        rw [e9] at d0; exact d0
      rw [Nat.div_one, Nat.div_one] at HQ
      clear x5 hcell
      go_wp2_with fail
      all_goals try (exfalso; omega)
      refine bodyPost_ret (v := .agg #[.bool neg, .slice A3 la c3, .slice A4 lb c4]) (by simp [results, Try.results59, go_sem, m0, m1, m2]) rfl ⟨_, rfl, ?_, ?_⟩
      · rw [HQ.out]
        refine ⟨_, _, rfl, ?_, ?_⟩
        · exact (((HP.out.set (fun h => h.2 rfl) _).set (fun h => h.2 rfl) _).set (fun h => h.2 rfl) _).mono (fun b _ h => h.1)
        · exact (((HPD.out.set (fun h => h.2 rfl) _).set (fun h => h.2 rfl) _).set (fun h => h.2 rfl) _).mono (fun b _ h => h.1)
      · exact bl_set (bl_set (bl_set HB3.out (by simp) _) (by simp) _) (by simp) _
    · have HLG := Lib.hid (show (limbs g).length ≤ 4000000 from hgl)
      have HD1 := Lib.hid (fun v W hok h1 h2 => rdiv_any (fun x => ok x ∧ x ≠ w.heap.size) (.slice A3 la c3) v a g W hok h1 h2 (by have := LA.out; omega) HLG.out HG0.out)
      have HD2 := Lib.hid (fun v W hok h1 h2 => rdiv_any (fun x => ok x ∧ x ≠ w.heap.size) (.slice A4 lb c4) v b g W hok h1 h2 (by have := LB.out; omega) HLG.out HG0.out)
      obtain ⟨gs, hgs⟩ : ∃ l, l = limbs g := ⟨_, rfl⟩
      have hcs : gs.length ≠ 1 ∨ (gs.length = 1 ∧ gs.getD 0 0 ≠ 1) := by
        by_cases h1 : gs.length = 1
        · refine .inr ⟨h1, fun h2 => hg1 ?_⟩
          have h3 : val gs = g := by rw [hgs]; exact val_limbs g
          match gs, h1, h2, h3 with
          | [z], _, h2, h3 =>
            simp [val] at h2 h3
            omega
        · exact .inl h1
      rw [← hgs] at hr3
      have HGS := Lib.hid hgs
      obtain ⟨A5, c5, rfl, l5, x5⟩ := hr3
      clear hg1 hgs
      rcases hcs with h1 | ⟨h1, h2⟩
      · have t3 : ((gs.length : Int) != 1) = true := by simp; omega
        clear x5
        go_wp2_with fail
        refine (HD1.out _ _ (HOK.out _ z3) HP.out.now HR3.out).mono ?_
        rintro e w4 ⟨q1, y1, rfl, hq1, _, hb4⟩
        have HQ1 := Lib.hid hq1
        have HG4 := Lib.hid (blk_below HG3.out hb4)
        have HB4 := Lib.hid (bl_call HB3.out hb4)
        have HPD4 := Lib.hid (HPD.out.below hb4)
        have HR4 := Lib.hid (HR3.out.below hb4)
        have z4 : w.heap.size + 1 ≤ w4.heap.size := by have := hb4.size; omega
        obtain ⟨A6, c6, rfl, _, _⟩ := hq1.len
        clear hq1 hb4 m0 m1 m2 mf
        go_wp2_with fail
        refine (HD2.out _ _ (HOK.out _ z4) HPD4.out.now HR4.out).mono ?_
        rintro e w5 ⟨q2, y2, rfl, hq2, _, hb5⟩
        have HQ2 := Lib.hid hq2
        have HQ15 := Lib.hid (HQ1.out.below hb5)
        have HB5 := Lib.hid (bl_call HB4.out hb5)
        have HG5 := Lib.hid (blk_below HG4.out hb5)
        have m0 := blk_cell HG5.out 0
        have m1 := blk_cell HG5.out 1
        have m2 := blk_cell HG5.out 2
        have mf := blk_frozen HG5.out
        simp at m0 m1 m2
        obtain ⟨A7, c7, rfl, _, _⟩ := hq2.len
        clear hq2 hb5
        go_wp2_with fail
        refine bodyPost_ret (v := .agg #[.bool neg, .slice A6 (limbs (a / g)).length c6, .slice A7 (limbs (b / g)).length c7]) (by simp [results, Try.results59, go_sem, m0, m1, m2]) rfl ⟨_, rfl, ?_, ?_⟩
        · rw [HQ.out]
          refine ⟨_, _, rfl, ?_, ?_⟩
          · exact (((HQ15.out.set (fun h => h.2 rfl) _).set (fun h => h.2 rfl) _).set (fun h => h.2 rfl) _).mono (fun b _ h => h.1)
          · exact (((HQ2.out.set (fun h => h.2 rfl) _).set (fun h => h.2 rfl) _).set (fun h => h.2 rfl) _).mono (fun b _ h => h.1)
        · exact bl_set (bl_set (bl_set HB5.out (by simp) _) (by simp) _) (by simp) _
      · obtain ⟨ad, rfl, hcell⟩ := x5.resolve_left (by rintro rfl; simp at h1)
        obtain ⟨gz, hgz⟩ : ∃ z, z = gs.getD 0 0 := ⟨_, rfl⟩
        have d0 : w3.cell? (ad.add 0) = some (.int .u32 gz) := by rw [hgz]; exact hcell 0 (by omega)
        have d1 : w3.cell? ad = some (.int .u32 gz) := by
          have e9 : ad.add 0 = ad := by unfold Addr.add; simp
          rw [e9] at d0; exact d0
        rw [← hgz] at h2
        have t4 : (gz != 1) = true := by simpa using h2
        rw [h1] at HR3 ⊢
        clear x5 hcell hgz
        go_wp2_with fail
        refine (HD1.out _ _ (HOK.out _ z3) HP.out.now HR3.out).mono ?_
        rintro e w4 ⟨q1, y1, rfl, hq1, _, hb4⟩
        have HQ1 := Lib.hid hq1
        have HG4 := Lib.hid (blk_below HG3.out hb4)
        have HB4 := Lib.hid (bl_call HB3.out hb4)
        have HPD4 := Lib.hid (HPD.out.below hb4)
        have HR4 := Lib.hid (HR3.out.below hb4)
        have z4 : w.heap.size + 1 ≤ w4.heap.size := by have := hb4.size; omega
        obtain ⟨A6, c6, rfl, _, _⟩ := hq1.len
        clear hq1 hb4 m0 m1 m2 mf
        go_wp2_with fail
        refine (HD2.out _ _ (HOK.out _ z4) HPD4.out.now HR4.out).mono ?_
        rintro e w5 ⟨q2, y2, rfl, hq2, _, hb5⟩
        have HQ2 := Lib.hid hq2
        have HQ15 := Lib.hid (HQ1.out.below hb5)
        have HB5 := Lib.hid (bl_call HB4.out hb5)
        have HG5 := Lib.hid (blk_below HG4.out hb5)
        have m0 := blk_cell HG5.out 0
        have m1 := blk_cell HG5.out 1
        have m2 := blk_cell HG5.out 2
        have mf := blk_frozen HG5.out
        simp at m0 m1 m2
        obtain ⟨A7, c7, rfl, _, _⟩ := hq2.len
        clear hq2 hb5
        go_wp2_with fail
        refine bodyPost_ret (v := .agg #[.bool neg, .slice A6 (limbs (a / g)).length c6, .slice A7 (limbs (b / g)).length c7]) (by simp [results, Try.results59, go_sem, m0, m1, m2]) rfl ⟨_, rfl, ?_, ?_⟩
        · rw [HQ.out]
          refine ⟨_, _, rfl, ?_, ?_⟩
          · exact (((HQ15.out.set (fun h => h.2 rfl) _).set (fun h => h.2 rfl) _).set (fun h => h.2 rfl) _).mono (fun b _ h => h.1)
          · exact (((HQ2.out.set (fun h => h.2 rfl) _).set (fun h => h.2 rfl) _).set (fun h => h.2 rfl) _).mono (fun b _ h => h.1)
        · exact bl_set (bl_set (bl_set HB5.out (by simp) _) (by simp) _) (by simp) _
end Go.Proofs.Ytikpdkgamcecjaa
