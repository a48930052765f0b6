/- Walks: divSmall. -/
import Derived.Test.YtikpdkgamcecjaaR3
import Derived.RegionTactic
import Derived.ChangeAlike
namespace Go.Proofs.Ytikpdkgamcecjaa
open Go.RowKit
set_option linter.unusedSimpArgs false
set_option linter.unusedVariables false

/-- What holds in the loop of divSmall: m limbs are left. -/
def DS (xs : List Int) (d : Int) (zs : List Int) (r : Int) (m : Nat) : Prop :=
  zs.length = xs.length ∧ Lb zs ∧ (∀ j, j < m → zs.getD j 0 = 0) ∧ vs xs xs.length - vs xs m = d * vs zs xs.length + r * 1000000000 ^ m ∧ 0 ≤ r ∧ r < d
theorem ediv_bd {t d b : Int} (h0 : 0 ≤ t) (hd : 0 < d) (h : t < b * d) : 0 ≤ t / d ∧ t / d < b ∧ t = d * (t / d) + t % d ∧ 0 ≤ t % d ∧ t % d < d :=
  ⟨Int.ediv_nonneg h0 (by omega), Int.ediv_lt_of_lt_mul hd h, (Int.mul_ediv_add_emod t d).symm, Int.emod_nonneg _ (by omega), Int.emod_lt_of_pos _ hd⟩
theorem ds_lt {d r x : Int} (hr : 0 ≤ r ∧ r < d) (hx : 0 ≤ x ∧ x < 1000000000) : 0 ≤ r * 1000000000 + x ∧ r * 1000000000 + x < 1000000000 * d := by omega
theorem ds_step {xs zs : List Int} {d r : Int} {m : Nat} (h : DS xs d zs r (m + 1)) (hm : m < xs.length) (hx : 0 ≤ xs.getD m 0 ∧ xs.getD m 0 < 1000000000) (hd : 1 ≤ d) :
    DS xs d (zs.set m ((r * 1000000000 + xs.getD m 0) / d)) ((r * 1000000000 + xs.getD m 0) % d) m := by
  obtain ⟨h1, h2, h3, h4, h5, h6⟩ := h
  obtain ⟨b1, b2⟩ := ds_lt ⟨h5, h6⟩ hx
  obtain ⟨c1, c2, c3, c4, c5⟩ := ediv_bd b1 (by omega) b2
  refine ⟨by simpa using h1, fun j hj => ?_, fun j hj => ?_, ?_, c4, c5⟩
  · by_cases e : j = m
    · subst e; rw [getD_set_self (by omega)]; exact ⟨c1, c2⟩
    · rw [getD_set_ne e]; exact h2 j (by simpa using hj)
  · rw [getD_set_ne (by omega)]; exact h3 j (by omega)
  · rw [vs_set_gt _ _ _ (by omega) _ (by omega), h3 m (by omega)]
    have e : vs xs (m + 1) = vs xs m + xs.getD m 0 * 1000000000 ^ m := rfl
    rw [e, Int.pow_succ] at h4
    generalize (r * 1000000000 + xs.getD m 0) / d = q at *
    generalize (r * 1000000000 + xs.getD m 0) % d = s at *
    grind
theorem ds_end {xs zs : List Int} {d r : Int} (h : DS xs d zs r 0) (hd : 1 ≤ d) : Lb zs ∧ val zs = val xs / d ∧ r = val xs % d := by
  obtain ⟨h1, h2, h3, h4, h5, h6⟩ := h
  have e : val xs = d * val zs + r := by
    rw [← vs_val, ← vs_val, h1]
    simp [vs] at h4
    exact h4
  refine ⟨h2, ?_, ?_⟩
  · rw [e, Int.add_comm, Int.add_mul_ediv_left _ _ (by omega), Int.ediv_eq_zero_of_lt h5 h6]; omega
  · rw [e, Int.add_comm, Int.add_mul_emod_self_left, Int.emod_eq_of_lt h5 h6]

set_option maxHeartbeats 2000000 in
theorem divSmall_any (ok : Nat → Prop) (v : Value) (xs : List Int) (d : Int) (w : World) (hok : ∀ b, w.heap.size ≤ b → ok b) (h : Rd .u32 w v xs) (hlb : Lb xs) (hd : 1 ≤ d ∧ d < 1000000000) (hn : xs.length ≤ 16777216) :
    Calls Try.prog 85 #[v, .int .u32 d] w fun e w' => ∃ r, e = .returned (.tuple #[r, .int .u32 (val xs % d)]) ∧ Rdf .u32 w' ok r (limbs (val xs / d).toNat) ∧ Below w.heap.size w w' := by
  have H := Lib.hid h
  have HLB := Lib.hid hlb
  have HOK := Lib.hid hok
  obtain ⟨A, c, rfl, ⟨hl1, hl2⟩, _⟩ := h
  have hmk := make_u32 xs.length (by omega)
  clear hlb hok
  obtain ⟨d1, d2⟩ := hd
  go_enter Try.func85, Try.ntmps85
  go_wp2
  go_loopw [7, 8, 9, 10, 16] (fun rr s8 s9 s10 u wr => ∃ (k : Nat) (r : Int) (zs : List Int), k ≤ xs.length ∧ u = .int .i64 k ∧ rr = .int .u64 r ∧ ArrU wr w.heap.size zs ∧ DS xs d zs r (xs.length - k) ∧ Below w.heap.size w wr) (fun _ _ _ _ u _ => xs.length - (intOf u).toNat)
  case atStart => exact ⟨0, 0, _, Nat.zero_le _, rfl, rfl, zeros_arr _ _, ⟨by simp, fun j hj => by rw [getD_replicate]; omega, fun j hj => getD_replicate _ _, by simp [vs_zeros], by omega, by omega⟩, bl_alloc (Below.refl _ _) _⟩
  case round =>
    obtain ⟨k, r, zs, hk, rfl, rfl, ha, hms, hb⟩ := hrel
    have HA := Lib.hid ha
    have HMS := Lib.hid hms
    obtain ⟨q1, q2, q3, q4, q5, q6⟩ := hms
    clear ha q2 q3 q4
    by_cases hlt : k < xs.length
    · obtain ⟨m, hm⟩ : ∃ m, m = xs.length - 1 - k := ⟨_, rfl⟩
      have hmi : (xs.length : Int) - 1 - k = m := by omega
      have hm1 : m < xs.length := by omega
      obtain ⟨ad, rfl, _, hc⟩ := H.out.at_ hm1
      have HS := Lib.hid (ds_step (by have h9 := HMS.out; rwa [show xs.length - k = m + 1 by omega] at h9) hm1 (HLB.out m hm1) d1)
      have hx0 := (HLB.out m hm1).1
      have hx1 := (HLB.out m hm1).2
      obtain ⟨x, hx⟩ : ∃ x, x = xs.getD m 0 := ⟨_, rfl⟩
      rw [← hx] at hc HS hx0 hx1
      have HM := Lib.hid hm
      clear hx hm
      obtain ⟨b1, b2⟩ := ds_lt ⟨q5, q6⟩ ⟨hx0, hx1⟩
      obtain ⟨e1, e2, e3, e4, e5⟩ := ediv_bd b1 (by omega) b2
      have HE3 := Lib.hid e3
      clear e3
      have hc' : wr.cell? (ad.add m) = some (.int .u32 x) := (hb.cell (World.block_lt_of_cell? w _ hc)).trans hc
      have hz := HA.out.cell (show m < zs.length by omega)
      have hf := HA.out.free m
      go_wp2
      go_region
      all_goals (try go_wp2)
      all_goals
        go_roundw
        case measure => simp [intOf]; omega
        case rel =>
          refine ⟨k + 1, _, zs.set m ((r * 1000000000 + x) / d), by omega, by go_num, rfl, ?_, ?_, ?_⟩
          · exact HA.out.set m _
          · rw [show xs.length - (k + 1) = m by have := HM.out; omega]; exact HS.out
          · repeat (first | exact hb | apply bl_drew | refine bl_set ?_ (by simp) _)
    · obtain rfl : k = xs.length := by omega
      have HF := Lib.hid (ds_end (by have h9 := HMS.out; rwa [Nat.sub_self] at h9) d1)
      have HR := Lib.hid (HA.out.rdf (ok := ok) (n := xs.length) (c := xs.length) (HOK.out _ (Nat.le_refl _)) q1.symm (by omega) (by omega))
      go_wp2_with (go_at_call 81; refine (trim_any ok _ zs _ HR.out HF.out.1).mono ?_; rintro e w' ⟨r2, rfl, hr, rfl⟩)
      go_ret2
      exact ⟨r2, by rw [HF.out.2.2]; rfl, by rw [← HF.out.2.1]; exact hr, hb⟩
end Go.Proofs.Ytikpdkgamcecjaa
