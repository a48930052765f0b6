/- Walks of the reference: natDiv, the long division. -/
import Derived.Test.YtikpdkgamcecjaaN8
import Derived.Deep.DeepCutAuto
import Derived.Deep.CutBlock
namespace Go.Proofs.Ytikpdkgamcecjaa
open Go.RowKit
set_option linter.unusedSimpArgs false
set_option linter.unusedVariables false

theorem limbs_cons_of {x : Int} {R : Nat} (h0 : 0 ≤ x) (h1 : x < 1000000000) : (val (x :: limbs R)).toNat = R * 1000000000 + x.toNat := by
  simp only [val, val_limbs]; omega
theorem lb_cons_limbs {x : Int} {R : Nat} (h0 : 0 ≤ x) (h1 : x < 1000000000) : Lb (x :: limbs R) := lb_cons.2 ⟨⟨h0, h1⟩, lb_limbs R⟩

/-- The digit on its way down. -/
def Dn (w4 : World) (s : Value) (wx : World) : Prop := ∃ D : Nat, s = .int .u64 D ∧ (D : Int) ≤ 1000000000 ∧ Below w4.heap.size w4 wx
/-- The digit is not too great. -/
def Dok (b R : Nat) (w4 : World) (s : Value) (wx : World) : Prop := ∃ D : Nat, s = .int .u64 D ∧ (D : Int) ≤ 1000000000 ∧ b * D ≤ R ∧ Below w4.heap.size w4 wx
/-- The digit on its way up. -/
def Up (g b R : Nat) (x3 : World) (rv s : Value) (wx : World) : Prop := ∃ D : Nat, s = .int .u64 D ∧ b * D ≤ R ∧ Rdf .u32 wx (fun b => b ≠ g) rv (limbs (R - b * D)) ∧ Below x3.heap.size x3 wx
set_option maxRecDepth 100000 in
set_option maxHeartbeats 8000000 in
theorem rdiv_long (ok : Nat → Prop) (v u : Value) (a b : Nat) (w : World) (hok : ∀ b, w.heap.size ≤ b → ok b) (hx : Rd .u32 w v (limbs a)) (hy : Rd .u32 w u (limbs b)) (na : (limbs a).length ≤ 4000000) (nb : (limbs b).length ≤ 4000000) (hle : b ≤ a) (hb1 : 1000000000 ≤ b) :
    Calls Try.prog 70 #[v, u] w fun e w' => ∃ q r, e = .returned (.tuple #[q, r]) ∧ Rdf .u32 w' ok q (limbs (a / b)) ∧ Rd .u32 w' r (limbs (a % b)) ∧ Below w.heap.size w w' := by
  obtain ⟨i0, hi0, hz0, hz1, hz2⟩ := info_parts info_u32
  have HX := Lib.hid hx
  have HY := Lib.hid hy
  have HOK := Lib.hid hok
  obtain ⟨z, hz⟩ : ∃ z, z = cmpZ a b := ⟨_, rfl⟩
  have hz0' : 0 ≤ z := by rw [hz]; unfold cmpZ; rw [if_neg (by omega)]; split <;> omega
  have HCC := Lib.hid (fun W v u h h' => rcmp_any v u a b W h h')
  rw [← hz] at HCC
  have hl2 : 2 ≤ (limbs b).length := by
    rw [limbs_pos (by omega), limbs_pos (n := b / 1000000000) (by omega)]; simp
  have HLAST := Lib.hid (show 0 < (limbs b).getD ((limbs b).length - 1) 0 by
    have h1 := limbs_last (n := b) (by omega)
    have h2 := ((lb_limbs b).all ((limbs b).length - 1)).1
    omega)
  obtain ⟨xs, hxs⟩ : ∃ xs, xs = limbs a := ⟨_, rfl⟩
  obtain ⟨nb', hnb⟩ : ∃ n, n = (limbs b).length := ⟨_, rfl⟩
  have HXS := Lib.hid hxs
  have HNB := Lib.hid hnb
  have hvx : val xs = a := by rw [hxs]; exact val_limbs a
  have HVX := Lib.hid hvx
  have LX := Lib.hid (show Lb xs by rw [hxs]; exact lb_limbs a)
  rw [← hxs] at hx na
  have HXX := Lib.hid hx
  have HB := Lib.hid hb1
  obtain ⟨A, c1, rfl, ⟨l1, l1'⟩, _⟩ := hx
  obtain ⟨A2, c2, rfl, ⟨l2, l2'⟩, _⟩ := hy
  rw [← hnb] at HY l2 l2' nb hl2 ⊢
  rw [← hxs] at HX
  have hmk := make_u32 xs.length (by omega)
  have t1 : ((nb' : Int) == 1) = false := by simp; omega
  clear hok hz hle hb1 hxs hnb hvx
  go_enter Try.func70, Try.ntmps70
  go_wp2_with fail
  refine (HCC.out w _ _ (by rw [← HXS.out]; exact HX.out) HY.out).mono ?_
  rintro e w1 ⟨rfl, hb1⟩
  have HB1 := Lib.hid hb1
  have z1 := hb1.size
  clear hb1
  go_wp2_with fail
  go_loopw [9, 10] (fun rv i wr => ∃ (m R : Nat) (zs : List Int), m ≤ xs.length ∧ i = .int .i64 ((m : Int) - 1) ∧ ArrU wr w1.heap.size zs ∧ DS xs b zs R m ∧ Rdf .u32 wr (fun b => b ≠ w1.heap.size) rv (limbs R) ∧ Below w.heap.size w wr) (fun _ i _ => (intOf i + 1).toNat)
  case atStart =>
    exact ⟨xs.length, 0, _, Nat.le_refl _, rfl, zeros_arr _ _, ⟨by simp, fun j hj => by rw [getD_replicate]; omega, fun j hj => getD_replicate _ _, by simp [vs_zeros], by omega, by have := HB.out; omega⟩, by rw [limbs_zero]; exact Rdf.nil _ _ _ _, bl_alloc HB1.out _⟩
  case round =>
    obtain ⟨m', R, zs, hk, rfl, ha, hds, hr, hb⟩ := hrel
    obtain ⟨rv, hrv⟩ : ∃ r, r = u9 := ⟨_, rfl⟩
    subst hrv
    cases m' with
    | zero =>
      have e0 : ((0 : Nat) : Int) - 1 = -1 := by omega
      rw [e0]
      have hend := ds_end hds (by have := HB.out; omega)
      have hvq : val zs = ((a / b : Nat) : Int) := by rw [hend.2.1, HVX.out]; exact (Int.natCast_ediv a b).symm
      have hRm : R = a % b := by
        have h9 := hend.2.2
        rw [HVX.out, ← Int.natCast_emod] at h9
        omega
      have HLZ := Lib.hid hend.1
      have HVQ := Lib.hid hvq
      have hzl := hds.1
      have HRm := Lib.hid (show Rd .u32 wr rv (limbs (a % b)) by rw [← hRm]; exact hr.now)
      have HQR := Lib.hid (ha.rdf (ok := fun _ => True) (n := xs.length) (c := xs.length) trivial hzl.symm (by omega) (by omega)).now
      have HBb := Lib.hid hb
      have hsz := hb.size
      clear e0 hend hvq hRm ha hds hr hb
      go_wp2_with fail
      refine (rcut_any ok _ zs _ (fun b h => HOK.out b (by omega)) HQR.out HLZ.out (by omega)).mono ?_
      rw [HVQ.out, Int.toNat_natCast]
      rintro e y2 ⟨q2, rfl, hq2, hby2⟩
      have HQ2 := Lib.hid hq2
      clear hq2
      go_wp2_with fail
      go_ret2
      exact ⟨q2, _, rfl, HQ2.out, HRm.out.below hby2, bl_call HBb.out hby2⟩
    | succ m =>
      have e0 : ((m + 1 : Nat) : Int) - 1 = m := by omega
      rw [e0]
      have hm1 : m < xs.length := by omega
      obtain ⟨ad, rfl, _, hc⟩ := HXX.out.at_ hm1
      have hc' : wr.cell? (ad.add m) = some (.int .u32 (xs.getD m 0)) := (hb.cell (World.block_lt_of_cell? w _ hc)).trans hc
      have hx0 := (LX.out m hm1).1
      have hx1 := (LX.out m hm1).2
      have HDS := Lib.hid (ds_step hds hm1 (LX.out m hm1) (by have := HB.out; omega))
      have hzl := hds.1
      have hRb : R < b := by have := hds.2.2.2.2.2; omega
      obtain ⟨x, hxe⟩ : ∃ x, x = xs.getD m 0 := ⟨_, rfl⟩
      rw [← hxe] at hc' hx0 hx1 HDS
      have HRL := Lib.hid (show (limbs R).length ≤ 4000000 from Nat.le_trans (limbs_mono (a := R) (b := b) (by omega)) (by rw [← HNB.out]; exact nb))
      have HRd := Lib.hid hr.now
      have HRb := Lib.hid hRb
      have HAr := Lib.hid ha
      have HBb := Lib.hid hb
      have hsz := hb.size
      obtain ⟨Ar, cr, rfl, ⟨lr, lr'⟩, _⟩ := hr.now
      have hlr2 := HRL.out
      have HR0 := Lib.hid (HRd.out.reads.2)
      obtain ⟨lR, hlR⟩ : ∃ n, n = (limbs R).length := ⟨_, rfl⟩
      rw [← hlR] at HR0 HRd lr lr' hlr2 ⊢
      clear hc hds hxe ha hb e0 hRb hlR hr
      have hown0 := Lib.hid (World.ownsRow_lit (base := wr.heap.size) (e := 43) (size := 1) wr #[.int .u32 x] 1 (Nat.le_refl _) (by simp [maxLen]) (by simp))
      have HZ9 := Lib.hid (HR0.out.alloc (Nat.le_refl _) (.cells #[.int .u32 x] 43))
      go_wp2_with (at_builtin
                   refine wpList_append_any _ rfl (.tmp 47) (.tmp 48) _ rfl wr.heap.size 43 i0 _ 1 4 Try.underlying22 hi0 hz0 hz1 hz2 rfl (by omega) _ 1 _ rfl hown0.out wr.heap.size Ar lR cr _ rfl HZ9.out ?_ ?_ ?_ ?_ ?_
                   · exact one_ints _ _
                   · simp only [maxLen]; omega
                   · omega
                   · simp
                   intro v1 w2 hown1 hg1 hat1)
      have hbw1 : Below wr.heap.size wr w2 := (bl_alloc (Below.refl _ _) _).grown hg1 (by simp) (by intro g hg; injection hg with hg; exact Nat.le_of_eq hg)
      have HB2 := Lib.hid (bl_call HBb.out hbw1)
      have HR2 := Lib.hid (own_rd (k := .u32) (xs := x :: limbs R) (n := 1 + lR) (by simpa using hown1)).1
      have HA2 := Lib.hid (HAr.out.below hbw1)
      have hsz2 := hbw1.size
      clear hown1 hg1 hat1 hbw1
      have hcv := fun W v h => rcut_any (fun _ => True) v (x :: limbs R) W (fun _ _ => trivial) h (lb_cons_limbs hx0 hx1) (by have := HRL.out; simp; omega)
      rw [limbs_cons_of hx0 hx1] at hcv
      obtain ⟨R', hR'⟩ : ∃ R', R' = R * 1000000000 + x.toNat := ⟨_, rfl⟩
      rw [← hR'] at hcv
      have HCV := Lib.hid hcv
      clear hcv
      refine (HCV.out _ _ HR2.out).mono ?_
      rintro e w3 ⟨r3, rfl, hr3, hb3⟩
      have HR3 := Lib.hid hr3.now
      have HB3 := Lib.hid (bl_call HB2.out hb3)
      have HA3 := Lib.hid (HA2.out.below hb3)
      have hsz3 := hb3.size
      clear hr3 hb3
      go_wp2_with fail
      have HRL' := Lib.hid (show (limbs R').length ≤ 4000001 from by
        have h8 := (lb_cons_limbs (R := R) hx0 hx1)
        have h9 := limbs_len_le h8
        rw [limbs_cons_of hx0 hx1, ← hR'] at h9
        have := HRL.out
        simp at h9
        omega)
      refine (guess_any _ _ (limbs R') (limbs b) _ HR3.out (by have := HY.out.below HB3.out; rwa [HNB.out] at this ⊢) (lb_limbs _) (lb_limbs _) (by rw [← HNB.out]; exact hl2) HLAST.out).mono ?_
      rintro e w4 ⟨d, rfl, d0, d1, hb4⟩
      obtain ⟨D0, rfl⟩ : ∃ D : Nat, d = D := ⟨d.toNat, by omega⟩
      have HB4 := Lib.hid (bl_call HB3.out hb4)
      have HA4 := Lib.hid (HA3.out.below hb4)
      have HR4 := Lib.hid (HR3.out.below hb4)
      have hsz4 := hb4.size
      clear hb4
      have HDL := Lib.hid (fun (D : Nat) (h : (D : Int) ≤ 1000000000) => show (limbs D).length ≤ 2 from limbs_len (by omega))
      go_upto_block 2 with (fail)
      go_cut [11] (fun s wc => Dok b R' w4 s wc)
      case first =>
        go_wp2_with fail
        go_loopw [11] (fun s wx => Dn w4 s wx) (fun s _ => (intOf s).toNat)
        case atStart => exact ⟨D0, rfl, d1, Below.refl _ _⟩
        case round =>
          obtain ⟨D, rfl, hD, hbx⟩ := hrel
          by_cases hD0 : D = 0
          · subst hD0
            have HBX := Lib.hid hbx
            clear hbx
            go_wp2_with fail
            go_meet
            case rel => exact ⟨0, rfl, by omega, by omega, HBX.out⟩
          · have hp : (0 : Int) < D := by omega
            have HBX := Lib.hid hbx
            have HR5 := Lib.hid (HR4.out.below hbx)
            have HY5 := Lib.hid (HY.out.below (bl_call HB4.out hbx))
            clear hbx hD0
            go_wp2_with fail
            refine (rlimbs_any (fun _ => True) D _ (fun _ _ => trivial) (by omega)).mono ?_
            rintro e x1 ⟨q1, rfl, hq1, hbx1⟩
            have HQ1 := Lib.hid hq1.now
            have HBX1 := Lib.hid hbx1
            clear hq1 hbx1
            go_wp2_with fail
            refine (rmul_nat (fun _ => True) _ _ b D _ (fun _ _ => trivial) (HY5.out.below HBX1.out) HQ1.out (by rw [← HNB.out]; omega) (by have := HDL.out D hD; omega)).mono ?_
            rintro e x2 ⟨q2, rfl, hq2, hbx2⟩
            have HQ2 := Lib.hid hq2.now
            have HBX2 := Lib.hid (bl_call HBX1.out hbx2)
            clear hq2 hbx2
            go_wp2_with fail
            refine (rcmp_any _ _ (b * D) R' _ HQ2.out (HR5.out.below HBX2.out)).mono ?_
            rintro e x3 ⟨rfl, hbx3⟩
            have HBX3 := Lib.hid (bl_call HBX2.out hbx3)
            clear hbx3
            by_cases hgt : R' < b * D
            · have HC9 := Lib.hid (show cmpZ ((b * D : Nat) : Int) (R' : Int) = 1 by unfold cmpZ; rw [if_neg (by omega), if_pos (by omega)])
              rw [HC9.out]
              go_wp2_with fail
              exact ⟨⟨D - 1, by congr 1; omega, by omega, bl_call HBX.out HBX3.out⟩, by simp [intOf]; omega⟩
            · have HC9 := Lib.hid (show cmpZ ((b * D : Nat) : Int) (R' : Int) ≤ 0 by unfold cmpZ; split; omega; rw [if_neg (by omega)]; omega)
              obtain ⟨zc, hzc⟩ : ∃ z, z = cmpZ ((b * D : Nat) : Int) (R' : Int) := ⟨_, rfl⟩
              rw [← hzc] at HC9 ⊢
              have hz9 := HC9.out
              clear hzc
              go_wp2_with fail
              go_meet
              case rel => exact ⟨D, rfl, hD, by omega, bl_call HBX.out HBX3.out⟩
      case rest =>
        obtain ⟨D, rfl, hD, hbD, hb5⟩ := hcut
        have HB5 := Lib.hid (bl_call HB4.out hb5)
        have HA5 := Lib.hid (HA4.out.below hb5)
        have HR5 := Lib.hid (HR4.out.below hb5)
        have HY5 := Lib.hid (HY.out.below HB5.out)
        have HBD := Lib.hid hbD
        have hsz5 := HB5.out.size
        clear hb5 hbD
        go_wp2_with fail
        refine (rlimbs_any (fun _ => True) D _ (fun _ _ => trivial) (by omega)).mono ?_
        rintro e x1 ⟨q1, rfl, hq1, hbx1⟩
        have HQ1 := Lib.hid hq1.now
        have HBX1 := Lib.hid hbx1
        clear hq1 hbx1
        go_wp2_with fail
        refine (rmul_nat (fun _ => True) _ _ b D _ (fun _ _ => trivial) (HY5.out.below HBX1.out) HQ1.out (by rw [← HNB.out]; omega) (by have := HDL.out D hD; omega)).mono ?_
        rintro e x2 ⟨q2, rfl, hq2, hbx2⟩
        have HQ2 := Lib.hid hq2.now
        have HBX2 := Lib.hid (bl_call HBX1.out hbx2)
        clear hq2 hbx2
        go_wp2_with fail
        have hgl := blk_lt HA5.out
        have hgl2 := HBX2.out.size
        refine (rsub_nat (fun b => b ≠ w1.heap.size) _ _ R' (b * D) _ (fun b h => by omega) (HR5.out.below HBX2.out) HQ2.out (by have := HRL'.out; omega) HBD.out).mono ?_
        rintro e x3 ⟨q3, rfl, hq3, hbx3⟩
        have HQ3 := Lib.hid hq3
        have HBX3 := Lib.hid (bl_call HB5.out (bl_call HBX2.out hbx3))
        have HA6 := Lib.hid (HA5.out.below (bl_call HBX2.out hbx3))
        have HRB := Lib.hid (show R' < b * 1000000000 from by
          have h1 := HRb.out
          have h2 : R * 1000000000 + 1000000000 ≤ b * 1000000000 := by omega
          omega)
        clear hq3 hbx3
        go_wp2_with fail
        go_loopw [9, 11] (fun rv s wx => Up w1.heap.size b R' x3 rv s wx) (fun _ s _ => 1000000000 - (intOf s).toNat)
        case atStart => exact ⟨D, rfl, HBD.out, HQ3.out, Below.refl _ _⟩
        case round =>
          obtain ⟨E, rfl, hbE, hrE, hbx⟩ := hrel
          have hE9 : E < 1000000000 := by
            have h1 := HRB.out
            exact Nat.lt_of_mul_lt_mul_left (a := b) (by omega)
          have HREf := Lib.hid hrE
          have HRE := Lib.hid hrE.now
          have HBX := Lib.hid hbx
          have HY6 := Lib.hid (HY.out.below (bl_call HBX3.out hbx))
          have HA7 := Lib.hid (HA6.out.below hbx)
          have HBE := Lib.hid hbE
          obtain ⟨Ae, ce, rfl, _, _⟩ := hrE.now
          obtain ⟨lE, hlE⟩ : ∃ n, n = (limbs (R' - b * E)).length := ⟨_, rfl⟩
          rw [← hlE] at HRE HREf ⊢
          clear hbx hbE hlE hrE
          go_wp2_with fail
          refine (rcmp_any _ _ (R' - b * E) b _ HRE.out HY6.out).mono ?_
          rintro e y1 ⟨rfl, hby1⟩
          have HBY1 := Lib.hid hby1
          clear hby1
          by_cases hge : b ≤ R' - b * E
          · obtain ⟨zc, hzc⟩ : ∃ z, z = cmpZ ((R' - b * E : Nat) : Int) (b : Int) := ⟨_, rfl⟩
            have hz9 : 0 ≤ zc := by rw [hzc]; unfold cmpZ; rw [if_neg (by omega)]; split <;> omega
            rw [← hzc]
            clear hzc
            go_wp2_with fail
            have hgl8 := blk_lt HA7.out
            have hgl9 := HBY1.out.size
            refine (rsub_nat (fun b => b ≠ w1.heap.size) _ _ (R' - b * E) b _ (fun b h => by omega) (HRE.out.below HBY1.out) (HY6.out.below HBY1.out) (by have h8 := HRL'.out; have h9 := limbs_mono (a := R' - b * E) (b := R') (by omega); omega) hge).mono ?_
            rintro e y2 ⟨q4, rfl, hq4, hby2⟩
            have HQ4 := Lib.hid hq4
            have HBY2 := Lib.hid (bl_call HBX.out (bl_call HBY1.out hby2))
            clear hq4 hby2
            have hmul : b * (E + 1) = b * E + b := Nat.mul_succ b E
            go_wp2_with fail
            have hbe := HBE.out
            refine ⟨⟨E + 1, by go_num, by omega, ?_, HBY2.out⟩, by simp [intOf]; omega⟩
            have e9 : R' - b * (E + 1) = R' - b * E - b := by omega
            rw [e9]; exact HQ4.out
          · have hz9 : cmpZ ((R' - b * E : Nat) : Int) (b : Int) = -1 := by unfold cmpZ; rw [if_pos (by omega)]
            rw [hz9]
            clear hz9
            have hmul : (E + 1) * b = b * E + b := by rw [Nat.add_mul, Nat.mul_comm, Nat.one_mul]
            have hdiv : R' / b = E := Nat.div_eq_of_lt_le (by have := HBE.out; rw [Nat.mul_comm]; exact this) (by have := HBE.out; omega)
            have hmod : R' % b = R' - b * E := by rw [Nat.mod_def, hdiv]
            have hq8 : ((R : Int) * 1000000000 + x) = (R' : Int) := by omega
            have HDS2 := Lib.hid (show DS xs b (zs.set m (E : Int)) ((R' - b * E : Nat) : Int) m by
              have h8 := HDS.out
              rw [hq8, ← Int.natCast_ediv, ← Int.natCast_emod, hdiv, hmod] at h8
              exact h8)
            have HA8 := Lib.hid (HA7.out.below HBY1.out)
            have hz := HA8.out.cell (show m < zs.length by omega)
            have hf := HA8.out.free m
            have HRE8 := Lib.hid (HREf.out.below HBY1.out)
            have HBF := Lib.hid (bl_call HBX3.out (bl_call HBX.out HBY1.out))
            obtain ⟨Ez, hEz⟩ : ∃ z : Int, z = (E : Int) := ⟨_, rfl⟩
            have hE1 : 0 ≤ Ez := by omega
            have hE2 : Ez < 1000000000 := by omega
            rw [← hEz] at HDS2 ⊢
            clear hmul hdiv hmod hq8 hge hEz
            go_wp2_with fail
            have hsy : w.heap.size ≤ w1.heap.size := HB1.out.size
            refine ⟨⟨m, R' - b * E, _, by omega, rfl, HA8.out.set m _, HDS2.out, HRE8.out.set (fun h => h rfl) _, bl_set HBF.out hsy _⟩, by simp [intOf] <;> omega⟩
end Go.Proofs.Ytikpdkgamcecjaa
