/- Walks: mul. -/
import Derived.Test.YtikpdkgamcecjaaR5
namespace Go.Proofs.Ytikpdkgamcecjaa
open Go.RowKit
set_option linter.unusedSimpArgs false
set_option linter.unusedVariables false

/-- What holds in the outer loop of mul. -/
def MO (xs ys zs : List Int) (i : Nat) : Prop :=
  zs.length = xs.length + ys.length ∧ Lb zs ∧ (∀ j, i + ys.length ≤ j → zs.getD j 0 = 0) ∧ vs zs (xs.length + ys.length) = vs xs i * vs ys ys.length
/-- .. and in the inner one. -/
def MI (xs ys zs : List Int) (c : Int) (i j : Nat) : Prop :=
  zs.length = xs.length + ys.length ∧ Lb zs ∧ (∀ j, i + ys.length ≤ j → zs.getD j 0 = 0) ∧ vs zs (xs.length + ys.length) + c * 1000000000 ^ (i + j) = vs xs i * vs ys ys.length + xs.getD i 0 * vs ys j * 1000000000 ^ i ∧ 0 ≤ c ∧ c < 1000000000
theorem mi_start {xs ys zs : List Int} {i : Nat} (h : MO xs ys zs i) : MI xs ys zs 0 i 0 := by
  obtain ⟨h1, h2, h3, h4⟩ := h
  exact ⟨h1, h2, h3, by rw [h4]; simp [vs], by omega, by omega⟩
theorem lb_set {zs : List Int} {k : Nat} {t : Int} (h : Lb zs) (ht : 0 ≤ t ∧ t < 1000000000) : Lb (zs.set k t) := by
  intro j hj
  by_cases e : j = k
  · subst e; rw [getD_set_self (by simpa using hj)]; exact ht
  · rw [getD_set_ne e]; exact h j (by simpa using hj)
theorem mi_bd {x y z c : Int} (hx : 0 ≤ x ∧ x < 1000000000) (hy : 0 ≤ y ∧ y < 1000000000) (hz : 0 ≤ z ∧ z < 1000000000) (hc : 0 ≤ c ∧ c < 1000000000) :
    0 ≤ x * y ∧ x * y ≤ 999999998000000001 ∧ 0 ≤ x * y + z + c ∧ x * y + z + c < 1000000000000000000 := by
  obtain ⟨b1, b2⟩ := mul_pos_bd hx.1 (show x ≤ 999999999 by omega) hy.1 (show y ≤ 999999999 by omega)
  omega
theorem mi_step {xs ys zs : List Int} {c : Int} {i j : Nat} (h : MI xs ys zs c i j) (hi : i < xs.length) (hj : j < ys.length) (lx : Lb xs) (ly : Lb ys) :
    MI xs ys (zs.set (i + j) ((xs.getD i 0 * ys.getD j 0 + zs.getD (i + j) 0 + c) % 1000000000)) ((xs.getD i 0 * ys.getD j 0 + zs.getD (i + j) 0 + c) / 1000000000) i (j + 1) := by
  obtain ⟨h1, h2, h3, h4, h5, h6⟩ := h
  obtain ⟨b1, b2, b3, b4⟩ := mi_bd (lx.all i) (ly.all j) (h2.all (i + j)) ⟨h5, h6⟩
  refine ⟨by simpa using h1, lb_set h2 (by omega), fun k hk => ?_, ?_, by omega, by omega⟩
  · rw [getD_set_ne (by omega)]; exact h3 k hk
  · rw [vs_set_gt _ _ _ (by omega) _ (by omega)]
    have e : vs ys (j + 1) = vs ys j + ys.getD j 0 * 1000000000 ^ j := rfl
    rw [e, show i + (j + 1) = i + j + 1 by omega, Int.pow_succ]
    have e2 : (1000000000 : Int) ^ (i + j) = 1000000000 ^ i * 1000000000 ^ j := Int.pow_add ..
    have e3 : (xs.getD i 0 * ys.getD j 0 + zs.getD (i + j) 0 + c) = 1000000000 * ((xs.getD i 0 * ys.getD j 0 + zs.getD (i + j) 0 + c) / 1000000000) + (xs.getD i 0 * ys.getD j 0 + zs.getD (i + j) 0 + c) % 1000000000 := by omega
    generalize (xs.getD i 0 * ys.getD j 0 + zs.getD (i + j) 0 + c) / 1000000000 = q at *
    generalize (xs.getD i 0 * ys.getD j 0 + zs.getD (i + j) 0 + c) % 1000000000 = r at *
    rw [e2] at h4 ⊢
    generalize (1000000000 : Int) ^ i = bi at *
    generalize (1000000000 : Int) ^ j = bj at *
    generalize zs.getD (i + j) 0 = z at *
    grind
theorem mi_end {xs ys zs : List Int} {c : Int} {i : Nat} (h : MI xs ys zs c i ys.length) (hi : i < xs.length) : MO xs ys (zs.set (i + ys.length) c) (i + 1) := by
  obtain ⟨h1, h2, h3, h4, h5, h6⟩ := h
  refine ⟨by simpa using h1, lb_set h2 ⟨h5, h6⟩, fun k hk => ?_, ?_⟩
  · rw [getD_set_ne (by omega)]; exact h3 k (by omega)
  · rw [vs_set_gt _ _ _ (by omega) _ (by omega), h3 _ (Nat.le_refl _), Int.sub_zero, h4]
    have e : vs xs (i + 1) = vs xs i + xs.getD i 0 * 1000000000 ^ i := rfl
    rw [e]
    grind
theorem mo_end {xs ys zs : List Int} (h : MO xs ys zs xs.length) : Lb zs ∧ val zs = val xs * val ys := by
  obtain ⟨h1, h2, h3, h4⟩ := h
  refine ⟨h2, ?_⟩
  rw [← vs_val, h1, h4, vs_val, vs_val]

set_option maxHeartbeats 4000000 in
theorem mul_any (ok : Nat → Prop) (v u : Value) (xs ys : List Int) (w : World) (hok : ∀ b, w.heap.size ≤ b → ok b) (hx : Rd .u32 w v xs) (hy : Rd .u32 w u ys) (lx : Lb xs) (ly : Lb ys) (nx : xs.length ≤ 16777216) (ny : ys.length ≤ 16777216) :
    Calls Try.prog 58 #[v, u] w fun e w' => ∃ r, e = .returned r ∧ Rdf .u32 w' ok r (limbs (val xs * val ys).toNat) ∧ Below w.heap.size w w' := by
  have HX := Lib.hid hx
  have HY := Lib.hid hy
  have LX := Lib.hid lx
  have LY := Lib.hid ly
  have HOK := Lib.hid hok
  obtain ⟨A, c1, rfl, ⟨l1, l2⟩, _⟩ := hx
  obtain ⟨A2, c2, rfl, ⟨l3, l4⟩, _⟩ := hy
  clear lx ly hok
  have hmk := make_u32 (xs.length + ys.length) (by omega)
  simp only [Int.natCast_add] at hmk
  go_enter Try.func58, Try.ntmps58
  go_wp2
  go_loopw [6, 7, 8, 9, 18] (fun s6 s7 s8 s9 u wr => ∃ (i : Nat) (zs : List Int), i ≤ xs.length ∧ u = .int .i64 i ∧ ArrU wr w.heap.size zs ∧ MO xs ys zs i ∧ Below w.heap.size w wr) (fun _ _ _ _ u _ => xs.length - (intOf u).toNat)
  case atStart => exact ⟨0, _, Nat.zero_le _, rfl, zeros_arr _ _, ⟨by simp, fun j hj => by rw [getD_replicate]; omega, fun j hj => getD_replicate _ _, by rw [vs_zeros]; simp [vs]⟩, bl_alloc (Below.refl _ _) _⟩
  case round =>
    obtain ⟨i, zs, hi, rfl, ha, hms, hb⟩ := hrel
    by_cases hlt : i < xs.length
    · have HMI := Lib.hid (mi_start hms)
      clear hms
      obtain ⟨wo, rfl⟩ : ∃ wo : World, wo = wr := ⟨_, rfl⟩
      have HA0 := Lib.hid ha
      clear ha
      obtain ⟨ad, rfl, _, hc⟩ := HX.out.at_ hlt
      obtain ⟨x, hx⟩ : ∃ x, x = xs.getD i 0 := ⟨_, rfl⟩
      rw [← hx] at hc
      have HXI := Lib.hid hx
      clear hx
      go_wp2
      go_loopw [7, 8, 9, 23] (fun cc s8 s9 u wr => ∃ (j : Nat) (c : Int) (zs : List Int), j ≤ ys.length ∧ u = .int .i64 j ∧ cc = .int .u64 c ∧ ArrU wr w.heap.size zs ∧ MI xs ys zs c i j ∧ Below w.heap.size w wr) (fun _ _ _ u _ => ys.length - (intOf u).toNat)
      case atStart => exact ⟨0, 0, zs, Nat.zero_le _, rfl, rfl, HA0.out, HMI.out, by first | exact hb | exact bl_drewN hb _⟩
      case round =>
        obtain ⟨j, c, zs, hj, rfl, rfl, ha, hms, hb⟩ := hrel
        have HA := Lib.hid ha
        have HMS := Lib.hid hms
        obtain ⟨q1, q2, q3, q4, q5, q6⟩ := hms
        have HQ2 := Lib.hid q2
        clear ha q2 q3 q4
        by_cases hlj : j < ys.length
        · obtain ⟨ad2, rfl, _, hc2⟩ := HY.out.at_ hlj
          have hc' : wr.cell? (ad.add i) = some (.int .u32 x) := (hb.cell (World.block_lt_of_cell? w _ hc)).trans hc
          have hc2' := (hb.cell (World.block_lt_of_cell? w _ hc2)).trans hc2
          have hz := HA.out.cell (show i + j < zs.length by omega)
          have hf := HA.out.free (i + j)
          have HS := Lib.hid (mi_step HMS.out hlt hlj LX.out LY.out)
          have bds := mi_bd (LX.out.all i) (LY.out.all j) (HQ2.out.all (i + j)) ⟨q5, q6⟩
          obtain ⟨x0, x1⟩ := LX.out.all i
          obtain ⟨y0, y1⟩ := LY.out.all j
          obtain ⟨z0, z1⟩ := HQ2.out.all (i + j)
          obtain ⟨y, hy⟩ : ∃ y, y = ys.getD j 0 := ⟨_, rfl⟩
          obtain ⟨z, hzz⟩ : ∃ z, z = zs.getD (i + j) 0 := ⟨_, rfl⟩
          rw [← HXI.out] at HS bds x0 x1
          rw [← hy] at HS bds hc2' y0 y1
          rw [← hzz] at HS bds hz z0 z1
          obtain ⟨b1, b2, b3, b4⟩ := bds
          clear hc2 hy hzz
          go_wp2
          go_quiet (fail)
          go_wp2
          go_roundw
          case measure => simp [intOf]; omega
          case rel => exact ⟨j + 1, _, _, by omega, by go_num, rfl, ArrU.set (w := wr.drewN _) HA.out (i + j) _, HS.out, bl_set (bl_drewN hb _) (by simp) _⟩
        · obtain rfl : j = ys.length := by omega
          have HE := Lib.hid (mi_end HMS.out hlt)
          have hz := HA.out.cell (show i + ys.length < zs.length by omega)
          have hf := HA.out.free (i + ys.length)
          go_wp2
          go_roundw
          case measure => simp [intOf]; omega
          case rel => exact ⟨i + 1, _, by omega, by go_num, HA.out.set (i + ys.length) _, HE.out, bl_set hb (by simp) _⟩
    · obtain rfl : i = xs.length := by omega
      have HF := Lib.hid (mo_end hms)
      have hl := hms.1
      clear hms
      have HR := Lib.hid (ha.rdf (ok := ok) (n := xs.length + ys.length) (c := xs.length + ys.length) (HOK.out _ (Nat.le_refl _)) hl.symm (by omega) (by omega))
      clear ha hl
      go_wp2_with (go_at_call 81; refine (trim_any ok _ zs _ HR.out HF.out.1).mono ?_; rintro e w' ⟨r2, rfl, hr, rfl⟩)
      go_ret
      exact ⟨r2, rfl, (by rw [← HF.out.2]; exact hr), hb⟩
end Go.Proofs.Ytikpdkgamcecjaa
