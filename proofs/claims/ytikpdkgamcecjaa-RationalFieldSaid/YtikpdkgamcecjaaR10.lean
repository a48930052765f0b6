/- Walks: div, the long division. -/
import Derived.Test.YtikpdkgamcecjaaR9
namespace Go.Proofs.Ytikpdkgamcecjaa
open Go.RowKit
set_option linter.unusedSimpArgs false
set_option linter.unusedVariables false

theorem top_zero {zs : List Int} {n : Nat} (h : Lb zs) (hv : vs zs (n + 1) < 1000000000 ^ n) : zs.getD n 0 = 0 := by
  have e : vs zs (n + 1) = vs zs n + zs.getD n 0 * 1000000000 ^ n := rfl
  have h1 := (vs_lt h n).1
  have h2 := h.all n
  by_cases c : zs.getD n 0 = 0
  · exact c
  · exfalso
    have : 1 * 1000000000 ^ n ≤ zs.getD n 0 * 1000000000 ^ n := Int.mul_le_mul_of_nonneg_right (by omega) (Int.le_of_lt (pow_pos' n))
    omega
/-- The scaled divisor: its limbs, the first one at least half the base. -/
theorem scaled {b n1 : Nat} {zs : List Int} (hn : (limbs b).length = n1 + 1) (hb : b ≠ 0) (hl : zs.length = n1 + 1 + 1) (lz : Lb zs)
    (hv : val zs = val (limbs b) * (1000000000 / ((limbs b).getD n1 0 + 1))) :
    vs (zs.take (n1 + 1)) (n1 + 1) = (b : Int) * (1000000000 / ((limbs b).getD n1 0 + 1)) ∧ 500000000 ≤ zs.getD n1 0 ∧ zs.getD n1 0 < 1000000000 ∧ (b : Int) * (1000000000 / ((limbs b).getD n1 0 + 1)) < 1000000000 ^ (n1 + 1) := by
  have lb := lb_limbs b
  have ht : (limbs b).getD n1 0 ≠ 0 := by have := limbs_last hb; rwa [hn, Nat.add_sub_cancel] at this
  obtain ⟨y0, y1⟩ := lb.all n1
  obtain ⟨s1, s2, s3, s4⟩ := scale_half (show 1 ≤ (limbs b).getD n1 0 by omega) y1
  have vb : vs (limbs b) (n1 + 1) = b := by rw [← hn, vs_val, val_limbs]
  have eb : vs (limbs b) (n1 + 1) = vs (limbs b) n1 + (limbs b).getD n1 0 * 1000000000 ^ n1 := rfl
  obtain ⟨w1, w2⟩ := vs_lt lb n1
  have hp := pow_pos' n1
  rw [val_limbs] at hv
  generalize (limbs b).getD n1 0 = y at *
  generalize 1000000000 / (y + 1) = d at *
  have hlt : (b : Int) * d < 1000000000 ^ (n1 + 1) := by
    have h1 : (b : Int) < (y + 1) * 1000000000 ^ n1 := by rw [Int.add_mul]; omega
    have h2 : (b : Int) * d < (y + 1) * 1000000000 ^ n1 * d := Int.mul_lt_mul_of_pos_right h1 (by omega)
    have h3 : (y + 1) * 1000000000 ^ n1 * d = (d * (y + 1)) * 1000000000 ^ n1 := by grind
    have h4 : (d * (y + 1)) * 1000000000 ^ n1 ≤ 1000000000 * 1000000000 ^ n1 := Int.mul_le_mul_of_nonneg_right s2 (by omega)
    rw [Int.pow_succ]
    omega
  have hvz : vs zs (n1 + 1 + 1) = (b : Int) * d := by rw [← hl, vs_val, hv]
  have h0 := top_zero lz (by rw [hvz]; exact hlt)
  have e1 : vs zs (n1 + 1 + 1) = vs zs (n1 + 1) + zs.getD (n1 + 1) 0 * 1000000000 ^ (n1 + 1) := rfl
  rw [h0] at e1
  have e2 : vs zs (n1 + 1) = vs zs n1 + zs.getD n1 0 * 1000000000 ^ n1 := rfl
  refine ⟨by rw [vs_take _ (Nat.le_refl _)]; omega, ?_, (lz.all n1).2, hlt⟩
  have w3 := vs_lt lz n1
  have h5 : y * 1000000000 ^ n1 * d ≤ (b : Int) * d := Int.mul_le_mul_of_nonneg_right (by omega) (by omega)
  have h6 : y * 1000000000 ^ n1 * d = (d * y) * 1000000000 ^ n1 := by grind
  have h7 : 500000000 * 1000000000 ^ n1 ≤ (d * y) * 1000000000 ^ n1 := Int.mul_le_mul_of_nonneg_right s1 (by omega)
  have h8 : 500000000 * 1000000000 ^ n1 < (zs.getD n1 0 + 1) * 1000000000 ^ n1 := by rw [Int.add_mul]; omega
  have := Int.lt_of_mul_lt_mul_right h8 (by omega)
  omega
theorem dv_start {a b d : Int} {n qlen m : Nat} {us : List Int} (hl : us.length = m + 1) (hq : qlen + n = m + 1) (lu : Lb us) (hv : val us = a * d) (hd : 0 < d) (hb : 1000000000 ^ n ≤ b * 1000000000) (ha : a < 1000000000 ^ m) (hq0 : 0 < qlen) :
    DV (a * d) (b * d) n qlen us (List.replicate qlen 0) qlen := by
  refine ⟨by omega, by simp, lu, fun j hj => by rw [getD_replicate]; omega, fun i hi => getD_of_ge (by omega), fun i hi => getD_replicate _ _, ?_, ?_⟩
  · rw [vs_zeros, hq, ← hl, vs_val, hv]; omega
  · rw [hq, ← hl, vs_val, hv]
    have h1 : (1000000000 : Int) ^ m ≤ b * 1000000000 ^ qlen := by
      have e : m = n + (qlen - 1) := by omega
      rw [e, Int.pow_add]
      have h2 : (1000000000 : Int) ^ n * 1000000000 ^ (qlen - 1) ≤ b * 1000000000 * 1000000000 ^ (qlen - 1) := Int.mul_le_mul_of_nonneg_right hb (Int.le_of_lt (pow_pos' _))
      have e2 : (1000000000 : Int) ^ qlen = 1000000000 ^ (qlen - 1) * 1000000000 := by rw [← Int.pow_succ]; congr 1; omega
      rw [e2]
      have : b * (1000000000 ^ (qlen - 1) * 1000000000) = b * 1000000000 * 1000000000 ^ (qlen - 1) := by grind
      omega
    have h3 : a * d < b * 1000000000 ^ qlen * d := Int.mul_lt_mul_of_pos_right (by omega) hd
    have h4 : b * 1000000000 ^ qlen * d = b * d * 1000000000 ^ qlen := by grind
    omega

theorem long_top {t n1 n2 N : Nat} {us vz : List Int} {V : Int} (h1 : n1 + 1 = N) (h2 : n2 + 2 = N) (lu : Lb us) (lv : Lb (vz.take N)) (hV : vs (vz.take N) N = V) (hv1 : 500000000 ≤ vz.getD n1 0 ∧ vz.getD n1 0 < 1000000000) (hw : ws us t (N + 1) < 1000000000 * V) :
    Top (ws us t (N + 1)) (vs (vz.take N) N) (us.getD (t + N) 0) (us.getD (t + n1) 0) (us.getD (t + n2) 0) ((vz.take N).getD n1 0) ((vz.take N).getD n2 0) := by
  obtain rfl : n1 = n2 + 1 := by omega
  subst h2
  obtain ⟨x, e1, e2, e3⟩ := top_three (zs := us) (j := t) (n := n2) (fun k _ => lu.all _)
  obtain ⟨y, f1, f2, f3⟩ := top_two (xs := vz.take (n2 + 2)) (n := n2) lv
  refine ⟨lu.all _, lu.all _, lu.all _, by rw [getD_take (by omega)]; exact hv1, lv.all _, ⟨1000000000 ^ n2, x, y, pow_pos' n2, e1, f1, e2, e3, f2, f3⟩, by rw [hV]; exact hw⟩
theorem take_rdf {w : World} {g n c : Nat} {zs : List Int} {ok : Nat → Prop} (h : ArrU w g zs) (hok : ok g) (hn : n ≤ zs.length) (hc : n ≤ c) (hl : zs.length ≤ 1073741824) : Rdf .u32 w ok (.slice (some ⟨g, 0, none⟩) n c) (zs.take n) := by
  have hl2 : (zs.take n).length = n := by rw [List.length_take]; omega
  intro W hW
  have h1 : ArrU W g zs := (hW g hok (blk_lt h)).trans h
  refine ⟨_, c, by rw [hl2], ⟨by omega, by omega⟩, .inr ⟨_, rfl, fun j hj => ?_⟩⟩
  rw [hl2] at hj
  rw [add_at, Nat.zero_add, h1.cell (by omega), getD_take hj]

set_option maxRecDepth 100000 in
set_option maxHeartbeats 16000000 in
theorem div_long (ok : Nat → Prop) (v u : Value) (a b : Nat) (w : World) (hok : ∀ b, w.heap.size ≤ b → ok b) (hx : Rdf .u32 w ok v (limbs a)) (hy : Rdf .u32 w ok u (limbs b)) (hlt : ¬ a < b) (hb1 : 1000000000 ≤ b) (hn : (limbs a).length ≤ 16777216) :
    Calls Try.prog 68 #[v, u] w fun e w' => ∃ q r, e = .returned (.tuple #[q, r]) ∧ Rdf .u32 w' ok q (limbs (a / b)) ∧ Rdf .u32 w' ok r (limbs (a % b)) ∧ Below w.heap.size w w' := by
  have HX := Lib.hid hx
  have HY := Lib.hid hy
  have HOK := Lib.hid hok
  have hc : cmpZ a b = 0 ∨ cmpZ a b = 1 := by
    unfold cmpZ; rw [if_neg (by omega)]
    by_cases h : (b : Int) < a
    · right; rw [if_pos h]
    · left; rw [if_neg h]
  have hle : (limbs b).length ≤ (limbs a).length := by
    by_cases h : (limbs b).length ≤ (limbs a).length
    · exact h
    · exact absurd (lt_of_len (a := a) (b := b) (by omega)) hlt
  have hn2 : 2 ≤ (limbs b).length := by
    rw [limbs_pos (by omega), limbs_pos (by omega)]; simp
  obtain ⟨n2, hn2e⟩ : ∃ n2, n2 + 2 = (limbs b).length := ⟨(limbs b).length - 2, by omega⟩
  obtain ⟨n1, hn1e⟩ : ∃ n1, n1 = n2 + 1 := ⟨_, rfl⟩
  have HTOP := limbs_last (n := b) (by omega)
  rw [show (limbs b).length - 1 = n1 by omega] at HTOP
  obtain ⟨y0, y1⟩ := (lb_limbs b).all n1
  obtain ⟨sc1, sc2, sc3, sc4⟩ := scale_half (show 1 ≤ (limbs b).getD n1 0 by omega) y1
  have HSC := Lib.hid (fun (zs : List Int) => scaled (b := b) (n1 := n1) (zs := zs) (by omega) (by omega))
  have HPB : (1000000000 : Int) ^ (limbs b).length ≤ b * 1000000000 := by
    have h1 := limbs_ge (n := b) (by omega)
    have h2 : (1000000000 : Int) ^ (limbs b).length = 1000000000 ^ ((limbs b).length - 1) * 1000000000 := by rw [← Int.pow_succ]; congr 1; omega
    omega
  have HPA := limbs_lt a
  have LX := Lib.hid (lb_limbs a)
  have LY := Lib.hid (lb_limbs b)
  obtain ⟨A, c1, rfl, ⟨l1, l2⟩, _⟩ := hx.now
  obtain ⟨A2, c2, rfl, ⟨l3, l4⟩, _⟩ := hy.now
  obtain ⟨ad2, rfl, _, hcy⟩ := hy.now.at_ (i := n1) (by omega)
  obtain ⟨qlen, hql⟩ : ∃ q, q + (limbs b).length = (limbs a).length + 1 := ⟨(limbs a).length + 1 - (limbs b).length, by omega⟩
  have hmk := make_u32 qlen (by omega)
  have hqi : ((limbs a).length : Int) + 1 - ((limbs b).length : Int) = qlen := by omega
  have hni : ((limbs b).length : Int) - 1 = n1 := by omega
  have hq0 : 0 < qlen := by omega
  have t1 : (((limbs b).length : Int) == 1) = false := by simp; omega
  obtain ⟨y, hyy⟩ : ∃ y, y = (limbs b).getD n1 0 := ⟨_, rfl⟩
  have HYY := Lib.hid hyy
  rw [← hyy] at hcy y0 y1 sc1 sc2 sc3 sc4 HTOP HSC
  obtain ⟨d, hd⟩ : ∃ d, d = 1000000000 / (y + 1) := ⟨_, rfl⟩
  rw [← hd] at sc1 sc2 sc3 sc4 HSC
  have HD := Lib.hid hd.symm
  have hd2 : 1000000000 / (y + 1) = d := hd.symm
  have HPB' := Lib.hid HPB
  have HPA' := Lib.hid HPA
  have hna : n1 + 1 ≤ (limbs b).length := by omega
  have hnb : (limbs b).length ≤ n1 + 1 := by omega
  have hnc : n2 + 1 ≤ n1 := by omega
  have hnd : n1 ≤ n2 + 1 := by omega
  have HQL := Lib.hid hql
  have hqa : qlen + (limbs b).length ≤ (limbs a).length + 1 := by omega
  have hqb : (limbs a).length + 1 ≤ qlen + (limbs b).length := by omega
  clear hx hy hok hyy hd HPB HPA HTOP sc1 sc2 hn1e hn2e hql
  rcases hc with hc | hc
  all_goals
    go_enter Try.func68, Try.ntmps68
    go_wp2_with fail
    refine (cmp_any _ _ a b _ HX.out.now HY.out.now).mono ?_
    rw [hc]
    rintro e w1 ⟨rfl, hb⟩
    have hcy' := (hb.cell (World.block_lt_of_cell? w _ hcy)).trans hcy
    go_wp2_with fail
    refine (mulSmall_any _ (limbs b) d _ (HY.out.now.below hb) LY.out ⟨by omega, by omega⟩ (by omega)).mono ?_
    rintro e w2 ⟨gv, vz, rfl, hav, hlv, hlbv, hvv, hgv, hb2⟩
    have HB2 := Lib.hid (bl_call hb hb2)
    have HAV := Lib.hid hav
    have hgv2 := blk_lt hav
    clear hb2 hav hcy'
    go_wp2_with fail
    refine (mulSmall_any _ (limbs a) d _ (HX.out.now.below HB2.out) LX.out ⟨by omega, by omega⟩ (by omega)).mono ?_
    rintro e w3 ⟨gu, uz, rfl, hau, hlu, hlbu, hvu, hgu, hb3⟩
    have HB3 := Lib.hid (bl_call HB2.out hb3)
    have hne1 : gv ≠ gu := by omega
    have HAU := Lib.hid hau
    have hgu2 := blk_lt hau
    have hgv3 : gv ≠ w3.heap.size := by have := hb3.size; omega
    have hgu3 : gu ≠ w3.heap.size := by omega
    have hAV3 := Lib.hid (HAV.out.below hb3)
    obtain ⟨sv1, sv2, sv3, sv4⟩ := HSC.out vz (by omega) hlbv hvv
    have hvN : vs (vz.take (limbs b).length) (limbs b).length = (b : Int) * d := by rw [show (limbs b).length = n1 + 1 by omega]; exact sv1
    have HVN := Lib.hid hvN
    have HV4 := Lib.hid (show (b : Int) * d < 1000000000 ^ (limbs b).length by rw [show (limbs b).length = n1 + 1 by omega]; exact sv4)
    have HVP := Lib.hid (show 0 < (b : Int) * d from Int.mul_pos (by omega) (by omega))
    have HLV := Lib.hid (lb_take (n := (limbs b).length) hlbv)
    have HST := Lib.hid (dv_start (a := a) (b := b) (d := d) (n := (limbs b).length) (qlen := qlen) (m := (limbs a).length) (us := uz) hlu HQL.out hlbu (by rw [hvu, val_limbs]) (by omega) HPB'.out HPA'.out hq0)
    have HSV := Lib.hid (And.intro sv2 sv3)
    have hvt : (vz.take (limbs b).length).length = (limbs b).length := by rw [List.length_take]; omega
    have HLT := Lib.hid hvt
    clear hau hb3 sv1 sv2 sv3 sv4 hvN hvt hvv hvu hlbv hlbu
    go_wp2_with fail
    go_loopw [13, 14, 63] (fun s13 s14 u wr => ∃ (k : Nat) (us qs : List Int), k ≤ qlen ∧ u = .int .i64 k ∧ ArrU wr gu us ∧ ArrU wr w3.heap.size qs ∧ Rdf .u32 wr (fun x => x ≠ gu ∧ x ≠ w3.heap.size) (.slice (some ⟨gv, 0, none⟩) (limbs b).length ((limbs b).length + 1)) (vz.take (limbs b).length) ∧ DV (a * d) (b * d) (limbs b).length qlen us qs (qlen - k) ∧ Below w.heap.size w wr) (fun _ _ u _ => qlen - (intOf u).toNat)
    case atStart =>
      refine ⟨0, uz, _, Nat.zero_le _, rfl, HAU.out.below (bl_alloc (Below.refl _ _) _), zeros_arr _ _, ?_, HST.out, bl_alloc HB3.out _⟩
      refine Rdf.below (w := w3) ?_ (bl_alloc (Below.refl _ _) _)
      intro W hW
      have h1 : ArrU W gv vz := (hW gv ⟨hne1, hgv3⟩ (blk_lt hAV3.out)).trans hAV3.out
      have h2 := (h1.rdf (ok := fun _ => True) (n := (limbs b).length + 1) (c := (limbs b).length + 1) trivial (by omega) (by omega) (by omega)).now
      obtain ⟨A', c', e1, ⟨e2, e2'⟩, e3⟩ := h2
      injection e1 with f1 f2 f3
      refine ⟨some ⟨gv, 0, none⟩, (limbs b).length + 1, by rw [HLT.out], ⟨by rw [HLT.out]; omega, by rw [HLT.out]; omega⟩, ?_⟩
      rcases e3 with e3 | ⟨ad, e4, e5⟩
      · left; rw [e3]; exact List.take_nil
      · right
        refine ⟨ad, f1.trans e4, fun j hj => ?_⟩
        rw [HLT.out] at hj
        rw [e5 j (by omega), getD_take hj]
    case round =>
      obtain ⟨k, us, qs, hk, rfl, hau, haq, hrv, hdv, hb⟩ := hrel
      have HA := Lib.hid hau
      have HQ := Lib.hid haq
      have HRV := Lib.hid hrv
      have HDV := Lib.hid hdv
      have hlus := hdv.1
      have hlqs := hdv.2.1
      clear hau haq hrv hdv
      by_cases hlt2 : k < qlen
      · obtain ⟨t, ht⟩ : ∃ t, t = qlen - 1 - k := ⟨_, rfl⟩
        have hti : (qlen : Int) - 1 - k = t := by omega
        have ht1 : t < qlen := by omega
        have hdt : DV (a * d) (b * d) (limbs b).length qlen us qs (t + 1) := by have h9 := HDV.out; rwa [show qlen - k = t + 1 by omega] at h9
        have HDT := Lib.hid hdt
        have HT := Lib.hid ht
        clear hdt ht
        have HTP := Lib.hid (long_top (t := t) (n1 := n1) (n2 := n2) (us := us) (vz := vz) (N := (limbs b).length) (V := (b : Int) * d) (by omega) (by omega) HDT.out.2.2.1 HLV.out HVN.out HSV.out (dv_window HDT.out).1)
        have HLU := Lib.hid HDT.out.2.2.1
        go_wp2_with fail
        rw [show t + (limbs b).length + 1 - t = (limbs b).length + 1 by omega]
        refine (step_any (fun x => x ≠ gu ∧ x ≠ w3.heap.size) gu t (limbs b).length n1 n2 ((limbs a).length + 1 - t) ((limbs b).length + 1) ⟨gv, 0, none⟩ us (vz.take (limbs b).length) wr (by omega) (by omega) HA.out HRV.out (fun h => h.1 rfl) (by omega) HLT.out (by omega) (by omega) HTP.out HLV.out (fun k hk => HLU.out.all _)).mono ?_
        rintro e w4 ⟨us2, rfl, hau2, hlu2, hout, hbnd, hws, hgb⟩
        rw [HVN.out] at hws ⊢
        have HA2 := Lib.hid hau2
        have HQ2 := Lib.hid (HQ.out.grown hgb (fun e => hgu3 e.symm))
        have HRV2 := Lib.hid (HRV.out.grown hgb (fun h => h.1 rfl))
        have HB4 := Lib.hid (hb.grown hgb hb.size (fun k hk => by injection hk with hk; have := HB2.out.size; omega))
        have HDV2 := Lib.hid (dv_step HDT.out ht1 ⟨HVP.out, HV4.out⟩ hlu2 hout hbnd hws)
        have hz := HQ2.out.cell (show t < qs.length by omega)
        have hf := HQ2.out.free t
        clear hau2 hlu2 hout hbnd hws hgb
        go_wp2_with fail
        go_roundw
        case measure => simp [intOf]; omega
        case rel =>
          refine ⟨k + 1, us2, _, by omega, by go_num, HA2.out.far (by simp; omega) _, HQ2.out.set t _, ?_, ?_, bl_set HB4.out (by have := HB3.out.size; simp; omega) _⟩
          · exact HRV2.out.set (fun h => h.2 rfl) _
          · rw [show qlen - (k + 1) = t by have := HT.out; omega]; exact HDV2.out
      · obtain rfl : k = qlen := by omega
        have hde : DV (a * d) (b * d) (limbs b).length k us qs 0 := by have h9 := HDV.out; rwa [Nat.sub_self] at h9
        have HDE := Lib.hid (dv_end hde (by omega) (by omega))
        have hlqv : val qs = a / b := by rw [← vs_val, hlqs]; exact (dv_end hde (by omega) (by omega)).1
        have HQV := Lib.hid hlqv
        have HLQ := Lib.hid hde.2.2.2.1
        have HLU := Lib.hid hde.2.2.1
        have htl : (us.take (limbs b).length).length = (limbs b).length := by rw [List.length_take]; omega
        have hvt2 : val (us.take (limbs b).length) = vs us (limbs b).length := by rw [← vs_val, htl]; exact vs_take _ (Nat.le_refl _)
        have HVT := Lib.hid hvt2
        have HTL := Lib.hid htl
        have HRU := Lib.hid (take_rdf (ok := ok) (n := (limbs b).length) (c := (limbs a).length + 1) HA.out (HOK.out gu (by have := HB2.out.size; omega)) (by omega) (by omega) (by omega))
        clear hde hlqv hvt2 htl
        go_wp2_with fail
        refine (trim_any ok _ (us.take (limbs b).length) _ HRU.out (lb_take HLU.out)).mono ?_
        rintro e w4 ⟨r1, rfl, hr1, rfl⟩
        have HR1 := Lib.hid hr1
        clear hr1
        go_wp2_with fail
        refine (divSmall_any ok _ _ d _ (fun x h => HOK.out x (Nat.le_trans hb.size h)) HR1.out.now (lb_limbs _) ⟨by omega, by omega⟩ ?_).mono ?_
        · have h1 := limbs_len_le (lb_take (n := (limbs b).length) HLU.out)
          have h2 := HTL.out
          omega
        rintro e w5 ⟨r2, rfl, hr2, hb5⟩
        have HR2 := Lib.hid hr2
        have HQ5 := Lib.hid (HQ.out.below hb5)
        have HB5 := Lib.hid (bl_call hb hb5)
        clear hr2 hb5
        go_wp2_with fail
        refine (trim_any ok _ qs _ (HQ5.out.rdf (HOK.out _ (by have := HB3.out.size; omega)) hlqs.symm (by omega) (by omega)) HLQ.out).mono ?_
        rintro e w6 ⟨r3, rfl, hr3, rfl⟩
        go_wp2_with fail
        go_ret2
        refine ⟨r3, r2, rfl, ?_, ?_, HB5.out⟩
        · rw [HQV.out, show (((a : Int) / b).toNat) = a / b by rw [← Int.natCast_ediv]; exact Int.toNat_natCast _] at hr3
          exact hr3
        · have h9 := HR2.out
          rw [val_limbs, HVT.out] at h9
          have hnn : 0 ≤ vs us (limbs b).length := (vs_lt HLU.out _).1
          rw [Int.toNat_of_nonneg hnn, HDE.out.2, show (((a : Int) % b).toNat) = a % b by rw [← Int.natCast_emod]; exact Int.toNat_natCast _] at h9
          exact h9
end Go.Proofs.Ytikpdkgamcecjaa
