/- Plain words on the long division: the scale, the digits one by one. -/
import Derived.Test.YtikpdkgamcecjaaM1
namespace Go.Proofs.Ytikpdkgamcecjaa
set_option linter.unusedVariables false
set_option linter.unusedSimpArgs false

/-- The scale makes the first limb at least half the base. -/
theorem scale_half {y : Int} (h1 : 1 ≤ y) (h2 : y < 1000000000) : 500000000 ≤ 1000000000 / (y + 1) * y ∧ 1000000000 / (y + 1) * (y + 1) ≤ 1000000000 ∧ 1 ≤ 1000000000 / (y + 1) ∧ 1000000000 / (y + 1) < 1000000000 := by
  have e1 := Int.mul_ediv_add_emod 1000000000 (y + 1)
  have e2 := Int.emod_nonneg 1000000000 (show y + 1 ≠ 0 by omega)
  have e3 := Int.emod_lt_of_pos 1000000000 (show 0 < y + 1 by omega)
  have e4 : 1 ≤ 1000000000 / (y + 1) := (Int.le_ediv_iff_mul_le (by omega)).2 (by omega)
  have e5 : 1000000000 / (y + 1) < 1000000000 := Int.ediv_lt_of_lt_mul (by omega) (by omega)
  have e6 : 2 * y + 1 < 1000000000 → 2 ≤ 1000000000 / (y + 1) := fun h => (Int.le_ediv_iff_mul_le (by omega)).2 (by omega)
  have e7 : y = 1 → 1000000000 / (y + 1) = 500000000 := fun h => by subst h; decide
  generalize 1000000000 / (y + 1) = d at *
  generalize 1000000000 % (y + 1) = r at *
  have m1 : (y + 1) * d = d * y + d := by grind
  have m2 : d * (y + 1) = d * y + d := by grind
  refine ⟨?_, by omega, e4, e5⟩
  by_cases c1 : y = 1
  · have := e7 c1
    subst c1; omega
  · by_cases c2 : 500000000 ≤ y
    · have : 1 * y ≤ d * y := Int.mul_le_mul_of_nonneg_right e4 (by omega)
      omega
    · by_cases c3 : 250000000 ≤ y
      · have h := e6 (by omega)
        have : 2 * y ≤ d * y := Int.mul_le_mul_of_nonneg_right h (by omega)
        omega
      · have : d * 2 ≤ d * y := Int.mul_le_mul_of_nonneg_left (by omega) (by omega)
        omega

theorem vs_take {xs : List Int} {n : Nat} : ∀ i, i ≤ n → vs (xs.take n) i = vs xs i
  | 0, _ => rfl
  | i + 1, h => by
    show vs (xs.take n) i + (xs.take n).getD i 0 * _ = vs xs i + xs.getD i 0 * _
    rw [vs_take i (by omega)]
    congr 2
    simp [List.getD_eq_getElem?_getD, List.getElem?_take, show i < n by omega]
theorem getD_take {xs : List Int} {n i : Nat} (h : i < n) : (xs.take n).getD i 0 = xs.getD i 0 := by
  simp [List.getD_eq_getElem?_getD, List.getElem?_take, h]
theorem lb_take {xs : List Int} {n : Nat} (h : Lb xs) : Lb (xs.take n) := fun j hj => by
  have : j < n := by simp at hj; omega
  rw [getD_take this]; exact h.all j
/-- The two first limbs. -/
theorem top_two {xs : List Int} {n : Nat} (lx : Lb xs) : ∃ y, vs xs (n + 2) = (xs.getD (n + 1) 0 * 1000000000 + xs.getD n 0) * 1000000000 ^ n + y ∧ 0 ≤ y ∧ y < 1000000000 ^ n := by
  obtain ⟨h1, h2⟩ := vs_lt lx n
  refine ⟨vs xs n, ?_, h1, h2⟩
  show vs xs n + xs.getD n 0 * 1000000000 ^ n + xs.getD (n + 1) 0 * 1000000000 ^ (n + 1) = _
  rw [Int.pow_succ]; grind
theorem top_three {zs : List Int} {j n : Nat} (lz : ∀ k, k ≤ n + 2 → 0 ≤ zs.getD (j + k) 0 ∧ zs.getD (j + k) 0 < 1000000000) :
    ∃ x, ws zs j (n + 3) = ((zs.getD (j + (n + 2)) 0 * 1000000000 + zs.getD (j + (n + 1)) 0) * 1000000000 + zs.getD (j + n) 0) * 1000000000 ^ n + x ∧ 0 ≤ x ∧ x < 1000000000 ^ n := by
  obtain ⟨h1, h2⟩ := ws_lt (zs := zs) (j := j) n (fun k hk => lz k (by omega))
  refine ⟨ws zs j n, ?_, h1, h2⟩
  show ws zs j n + zs.getD (j + n) 0 * 1000000000 ^ n + zs.getD (j + (n + 1)) 0 * 1000000000 ^ (n + 1) + zs.getD (j + (n + 2)) 0 * 1000000000 ^ (n + 2) = _
  rw [Int.pow_succ, Int.pow_succ]; grind

/-- What holds in the loop of div: t digits are left; V has n limbs, the dividend A. -/
def DV (A V : Int) (n qlen : Nat) (us qs : List Int) (t : Nat) : Prop :=
  us.length = qlen + n ∧ qs.length = qlen ∧ Lb us ∧ Lb qs ∧ (∀ i, t + n ≤ i → us.getD i 0 = 0) ∧ (∀ i, i < t → qs.getD i 0 = 0) ∧ A = V * vs qs qlen + vs us (t + n) ∧ vs us (t + n) < V * 1000000000 ^ t
/-- The window of the next digit. -/
theorem dv_window {A V : Int} {n qlen t : Nat} {us qs : List Int} (h : DV A V n qlen us qs (t + 1)) : ws us t (n + 1) < 1000000000 * V ∧ 0 ≤ ws us t (n + 1) := by
  obtain ⟨h1, h2, h3, h4, h5, h6, h7, h8⟩ := h
  have e1 := ws_vs us t (n + 1)
  rw [show t + (n + 1) = t + 1 + n by omega] at e1
  have e2 := vs_lt h3 t
  have hp := pow_pos' t
  constructor
  · rw [e1, Int.pow_succ] at h8
    have h9 : 1000000000 ^ t * ws us t (n + 1) < 1000000000 ^ t * (1000000000 * V) := by
      have : V * (1000000000 ^ t * 1000000000) = 1000000000 ^ t * (1000000000 * V) := by grind
      omega
    exact Int.lt_of_mul_lt_mul_left h9 (Int.le_of_lt hp)
  · exact (ws_lt (n + 1) (fun k hk => h3.all _)).1
theorem dv_step {A V : Int} {n qlen t : Nat} {us qs us2 : List Int} (h : DV A V n qlen us qs (t + 1)) (ht : t < qlen) (hV : 0 < V ∧ V < 1000000000 ^ n) (hl : us2.length = us.length)
    (ho : ∀ k, k < t ∨ t + n < k → us2.getD k 0 = us.getD k 0) (hb : ∀ k, k ≤ n → 0 ≤ us2.getD (t + k) 0 ∧ us2.getD (t + k) 0 < 1000000000) (hw : ws us2 t (n + 1) = ws us t (n + 1) % V) :
    DV A V n qlen us2 (qs.set t (ws us t (n + 1) / V)) t := by
  obtain ⟨w1, w2⟩ := dv_window h
  obtain ⟨h1, h2, h3, h4, h5, h6, h7, h8⟩ := h
  have d1 := Int.mul_ediv_add_emod (ws us t (n + 1)) V
  have d2 := Int.emod_nonneg (ws us t (n + 1)) (show V ≠ 0 by omega)
  have d3 := Int.emod_lt_of_pos (ws us t (n + 1)) hV.1
  have d4 : 0 ≤ ws us t (n + 1) / V := Int.ediv_nonneg w2 (by omega)
  have d5 : ws us t (n + 1) / V < 1000000000 := Int.ediv_lt_of_lt_mul hV.1 w1
  have hlb : Lb us2 := fun i hi => by
    by_cases c : i < t ∨ t + n < i
    · rw [ho i c]; exact h3.all i
    · have := hb (i - t) (by omega)
      rwa [show t + (i - t) = i by omega] at this
  -- the window's first limb is zero
  have htop : us2.getD (t + n) 0 = 0 := by
    have e : ws us2 t (n + 1) = ws us2 t n + us2.getD (t + n) 0 * 1000000000 ^ n := rfl
    have e2 := (ws_lt (zs := us2) (j := t) n (fun k hk => hb k (by omega))).1
    have e3 := hb n (Nat.le_refl _)
    by_cases c : us2.getD (t + n) 0 = 0
    · exact c
    · exfalso
      have : 1 * 1000000000 ^ n ≤ us2.getD (t + n) 0 * 1000000000 ^ n := Int.mul_le_mul_of_nonneg_right (by omega) (Int.le_of_lt (pow_pos' n))
      omega
  have ev : vs us2 t = vs us t := by
    have : ∀ i, i ≤ t → vs us2 i = vs us i := by
      intro i
      induction i with
      | zero => intro _; rfl
      | succ i ih => intro hi; show vs us2 i + us2.getD i 0 * _ = vs us i + us.getD i 0 * _; rw [ih (by omega), ho i (by omega)]
    exact this t (Nat.le_refl _)
  have e1 := ws_vs us2 t (n + 1)
  have e2 := ws_vs us t (n + 1)
  have e3 : vs us2 (t + (n + 1)) = vs us2 (t + n) := by
    show vs us2 (t + n) + us2.getD (t + n) 0 * _ = _
    rw [htop]; omega
  rw [e3, ev, hw] at e1
  rw [show t + (n + 1) = t + 1 + n by omega] at e2
  have hp := pow_pos' t
  have e4 := vs_lt h3 t
  refine ⟨by rw [hl]; exact h1, by simpa using h2, hlb, fun i hi => ?_, fun i hi => ?_, fun i hi => ?_, ?_, ?_⟩
  · by_cases c : i = t
    · subst c; rw [getD_set_self (by omega)]; exact ⟨d4, d5⟩
    · rw [getD_set_ne c]; exact h4.all i
  · by_cases c : i = t + n
    · rw [c]; exact htop
    · rw [ho i (by omega)]; exact h5 i (by omega)
  · rw [getD_set_ne (by omega)]; exact h6 i (by omega)
  · rw [vs_set_gt _ _ _ (by omega) _ ht, h6 t (by omega), Int.sub_zero, e1, h7, e2]
    generalize ws us t (n + 1) / V = q at *
    generalize ws us t (n + 1) % V = r at *
    rw [← d1]
    grind
  · rw [e1]
    have h9 : 1000000000 ^ t * (ws us t (n + 1) % V) ≤ 1000000000 ^ t * (V - 1) := Int.mul_le_mul_of_nonneg_left (by omega) (Int.le_of_lt hp)
    have h10 : 1000000000 ^ t * (V - 1) = V * 1000000000 ^ t - 1000000000 ^ t := by grind
    omega
theorem dv_end {a b d : Int} {n qlen : Nat} {us qs : List Int} (h : DV (a * d) (b * d) n qlen us qs 0) (hd : 0 < d) (hb : 0 < b) : vs qs qlen = a / b ∧ vs us n / d = a % b := by
  obtain ⟨h1, h2, h3, h4, h5, h6, h7, h8⟩ := h
  rw [Nat.zero_add] at h7 h8
  have h0 := (vs_lt h3 n).1
  have e1 : vs us n = d * (a - b * vs qs qlen) := by grind
  have e2 : vs us n / d = a - b * vs qs qlen := by rw [e1]; exact Int.mul_ediv_cancel_left _ (by omega)
  have e3 : 0 ≤ a - b * vs qs qlen := by
    by_cases c : 0 ≤ a - b * vs qs qlen
    · exact c
    · exfalso
      have : d * (a - b * vs qs qlen) ≤ d * (-1) := Int.mul_le_mul_of_nonneg_left (by omega) (by omega)
      omega
  have e4 : a - b * vs qs qlen < b := by
    have : d * (a - b * vs qs qlen) < d * b := by rw [← e1]; have : b * d * 1000000000 ^ 0 = d * b := by grind
                                                  omega
    exact Int.lt_of_mul_lt_mul_left this (by omega)
  obtain ⟨k1, k2⟩ := div_of (U := a) (V := b) (q := vs qs qlen) (r := a - b * vs qs qlen) (by rw [Int.mul_comm]; omega) e3 e4
  exact ⟨k1.symm, by rw [e2, k2]⟩
end Go.Proofs.Ytikpdkgamcecjaa
