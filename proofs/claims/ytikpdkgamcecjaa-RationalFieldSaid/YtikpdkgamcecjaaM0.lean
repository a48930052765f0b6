/- Plain words on limbs of base 10^9: no program in sight. -/
namespace Go.Proofs.Ytikpdkgamcecjaa
set_option linter.unusedVariables false
set_option linter.unusedSimpArgs false

/-- The number that a list of limbs denotes. -/
def val : List Int → Int
  | [] => 0
  | x :: xs => x + 1000000000 * val xs
/-- The canonical limbs. -/
def limbs (n : Nat) : List Int := if h : n = 0 then [] else ((n % 1000000000 : Nat) : Int) :: limbs (n / 1000000000)
termination_by n
decreasing_by omega
/-- Each limb is below the base. -/
def Lb (xs : List Int) : Prop := ∀ j, j < xs.length → 0 ≤ xs.getD j 0 ∧ xs.getD j 0 < 1000000000
/-- The sum of the first i limbs. -/
def vs (xs : List Int) : Nat → Int
  | 0 => 0
  | i + 1 => vs xs i + xs.getD i 0 * 1000000000 ^ i
theorem pow_pos' (i : Nat) : (0 : Int) < 1000000000 ^ i := Int.pow_pos (by omega)
theorem vs_cons (x : Int) (xs : List Int) : ∀ i, vs (x :: xs) (i + 1) = x + 1000000000 * vs xs i
  | 0 => by simp [vs]
  | i + 1 => by
    have h := vs_cons x xs i
    unfold vs
    rw [h]
    simp only [List.getD_cons_succ, Int.pow_succ]
    grind
theorem vs_val : ∀ xs : List Int, vs xs xs.length = val xs
  | [] => rfl
  | x :: xs => by
    have h := vs_val xs
    simp only [List.length_cons, val]
    rw [vs_cons, h]
theorem vs_set (xs : List Int) (k : Nat) (t : Int) : ∀ i, i ≤ k → vs (xs.set k t) i = vs xs i
  | 0, _ => rfl
  | i + 1, h => by
    unfold vs
    rw [vs_set xs k t i (by omega)]
    congr 1
    simp [List.getD_eq_getElem?_getD, List.getElem?_set, show ¬ k = i by omega]
theorem getD_set_self {xs : List Int} {k : Nat} {t : Int} (h : k < xs.length) : (xs.set k t).getD k 0 = t := by
  simp [List.getD_eq_getElem?_getD, List.getElem?_set, h]
theorem getD_set_ne {xs : List Int} {k i : Nat} {t : Int} (h : i ≠ k) : (xs.set k t).getD i 0 = xs.getD i 0 := by
  simp [List.getD_eq_getElem?_getD, List.getElem?_set, show ¬ k = i from fun e => h e.symm]
theorem vs_set_gt (xs : List Int) (k : Nat) (t : Int) (hk : k < xs.length) : ∀ i, k < i → vs (xs.set k t) i = vs xs i + (t - xs.getD k 0) * 1000000000 ^ k
  | 0, h => by omega
  | i + 1, h => by
    unfold vs
    by_cases e : k = i
    · subst e
      rw [vs_set xs k t k (Nat.le_refl _), getD_set_self hk]
      grind
    · rw [vs_set_gt xs k t hk i (by omega), getD_set_ne (fun e' => e e'.symm)]
      grind
theorem vs_nonneg {xs : List Int} (h : ∀ j, 0 ≤ xs.getD j 0) : ∀ i, 0 ≤ vs xs i
  | 0 => Int.le_refl _
  | i + 1 => by
    unfold vs
    have h1 := vs_nonneg h i
    have h2 := Int.mul_nonneg (h i) (Int.le_of_lt (pow_pos' i))
    omega
theorem getD_of_ge {xs : List Int} {j : Nat} (h : xs.length ≤ j) : xs.getD j 0 = 0 := by
  simp [List.getD_eq_getElem?_getD, List.getElem?_eq_none h]
theorem Lb.all {xs : List Int} (h : Lb xs) (j : Nat) : 0 ≤ xs.getD j 0 ∧ xs.getD j 0 < 1000000000 := by
  by_cases hj : j < xs.length
  · exact h j hj
  · rw [getD_of_ge (by omega)]; omega
theorem vs_lt {xs : List Int} (h : Lb xs) : ∀ i, 0 ≤ vs xs i ∧ vs xs i < 1000000000 ^ i
  | 0 => by simp [vs]
  | i + 1 => by
    obtain ⟨h1, h2⟩ := vs_lt h i
    obtain ⟨h3, h4⟩ := h.all i
    unfold vs
    have hp := pow_pos' i
    rw [Int.pow_succ]
    constructor
    · have := Int.mul_nonneg h3 (Int.le_of_lt hp); omega
    · have h5 : xs.getD i 0 * 1000000000 ^ i ≤ 999999999 * 1000000000 ^ i := Int.mul_le_mul_of_nonneg_right (by omega) (Int.le_of_lt hp)
      omega
theorem vs_ge (xs : List Int) : ∀ i, xs.length ≤ i → vs xs i = val xs := by
  intro i h
  induction i with
  | zero => have : xs = [] := List.eq_nil_of_length_eq_zero (by omega); subst this; rfl
  | succ i ih =>
    by_cases e : xs.length = i + 1
    · rw [← e]; exact vs_val xs
    · unfold vs; rw [ih (by omega), getD_of_ge (by omega)]; omega
theorem val_lt {xs : List Int} (h : Lb xs) : 0 ≤ val xs ∧ val xs < 1000000000 ^ xs.length := by
  rw [← vs_val]; exact vs_lt h _
theorem limbs_zero : limbs 0 = [] := by unfold limbs; simp
theorem limbs_pos {n : Nat} (h : n ≠ 0) : limbs n = ((n % 1000000000 : Nat) : Int) :: limbs (n / 1000000000) := by rw [limbs]; simp [h]
theorem val_limbs (n : Nat) : val (limbs n) = n := by
  induction n using Nat.strongRecOn with
  | _ n ih =>
    by_cases h : n = 0
    · subst h; rw [limbs_zero]; rfl
    · rw [limbs_pos h]; unfold val; rw [ih _ (by omega)]; omega
theorem lb_cons {x : Int} {xs : List Int} : Lb (x :: xs) ↔ (0 ≤ x ∧ x < 1000000000) ∧ Lb xs := by
  unfold Lb
  constructor
  · intro h
    exact ⟨by simpa using h 0 (by simp), fun j hj => by simpa using h (j + 1) (by simpa using hj)⟩
  · rintro ⟨h1, h2⟩ j hj
    cases j with
    | zero => simpa using h1
    | succ j => simpa using h2 j (by simpa using hj)
theorem lb_nil : Lb [] := fun j hj => by simp at hj
theorem lb_limbs (n : Nat) : Lb (limbs n) := by
  induction n using Nat.strongRecOn with
  | _ n ih =>
    by_cases h : n = 0
    · subst h; rw [limbs_zero]; exact lb_nil
    · rw [limbs_pos h, lb_cons]; exact ⟨by omega, ih _ (by omega)⟩
/-- The limbs of what a list denotes, the last one not zero. -/
theorem limbs_of {xs : List Int} (h : Lb xs) (hl : xs = [] ∨ xs.getD (xs.length - 1) 0 ≠ 0) : limbs (val xs).toNat = xs := by
  induction xs with
  | nil => simp [val, limbs_zero]
  | cons x xs ih =>
    rw [lb_cons] at h
    obtain ⟨hx, hxs⟩ := h
    have hv := val_lt hxs
    have hl2 : xs = [] ∨ xs.getD (xs.length - 1) 0 ≠ 0 := by
      cases xs with
      | nil => exact .inl rfl
      | cons y ys => rcases hl with hl | hl
                     · cases hl
                     · right; simpa using hl
    have ih2 := ih hxs hl2
    have hne : (x + 1000000000 * val xs).toNat ≠ 0 := by
      intro e
      have e0 : x + 1000000000 * val xs = 0 := by omega
      have x0 : x = 0 := by omega
      have v0 : val xs = 0 := by omega
      rw [v0] at ih2
      simp [limbs_zero] at ih2
      subst ih2
      rcases hl with hl | hl
      · cases hl
      · simp at hl; exact hl x0
    unfold val
    rw [limbs_pos hne]
    congr 1
    · omega
    · rw [← ih2]; congr 1; rw [ih2]; omega
/-- The list without zeros at its end. -/
def trimL (xs : List Int) : List Int := xs.take (limbs (val xs).toNat).length
theorem limbs_len_le {xs : List Int} (h : Lb xs) : (limbs (val xs).toNat).length ≤ xs.length := by
  induction xs with
  | nil => simp [val, limbs_zero]
  | cons x xs ih =>
    rw [lb_cons] at h
    have hv := val_lt h.2
    have ih2 := ih h.2
    unfold val
    by_cases e : (x + 1000000000 * val xs).toNat = 0
    · rw [e, limbs_zero]; simp
    · rw [limbs_pos e]
      have : (x + 1000000000 * val xs).toNat / 1000000000 = (val xs).toNat := by omega
      rw [this]; simp; omega
/-- What the loop of trim finds: from n on all limbs are zero, and limb n - 1 is not. -/
theorem take_limbs {xs : List Int} (h : Lb xs) (n : Nat) (hn : n ≤ xs.length) (hz : ∀ j, n ≤ j → xs.getD j 0 = 0) (hl : n = 0 ∨ xs.getD (n - 1) 0 ≠ 0) : xs.take n = limbs (val xs).toNat := by
  have h1 : Lb (xs.take n) := by
    intro j hj
    have hj2 : j < n := by simp at hj; omega
    have : (xs.take n).getD j 0 = xs.getD j 0 := by simp [List.getD_eq_getElem?_getD, List.getElem?_take, hj2]
    rw [this]; exact h.all j
  have hlen : (xs.take n).length = n := by simp; omega
  have h2 : val (xs.take n) = val xs := by
    rw [← vs_val, hlen]
    have e : ∀ i, i ≤ n → vs (xs.take n) i = vs xs i := by
      intro i
      induction i with
      | zero => intro _; rfl
      | succ i ih =>
        intro hi
        unfold vs
        rw [ih (by omega)]
        congr 2
        simp [List.getD_eq_getElem?_getD, List.getElem?_take, show i < n by omega]
    rw [e n (Nat.le_refl _)]
    have e2 : ∀ i, vs xs (n + i) = vs xs n := by
      intro i
      induction i with
      | zero => rfl
      | succ i ih => show vs xs (n + i) + xs.getD (n + i) 0 * 1000000000 ^ (n + i) = vs xs n; rw [ih, hz (n + i) (by omega)]; omega
    rw [← vs_val]
    have := e2 (xs.length - n)
    rw [show n + (xs.length - n) = xs.length by omega] at this
    exact this.symm
  have h3 := limbs_of h1 (by
    rcases hl with hl | hl
    · left; subst hl; simp
    · by_cases e : n = 0
      · left; subst e; simp
      · right; rw [hlen]
        have : (xs.take n).getD (n - 1) 0 = xs.getD (n - 1) 0 := by simp [List.getD_eq_getElem?_getD, List.getElem?_take, show n - 1 < n by omega]
        rw [this]; exact hl)
  rw [h2] at h3
  exact h3.symm
theorem limbs_eq_nil {n : Nat} : limbs n = [] ↔ n = 0 := by
  constructor
  · intro h
    have := val_limbs n
    rw [h] at this
    simp [val] at this
    omega
  · rintro rfl; exact limbs_zero
theorem limbs_last {n : Nat} (h : n ≠ 0) : (limbs n).getD ((limbs n).length - 1) 0 ≠ 0 := by
  induction n using Nat.strongRecOn with
  | _ n ih =>
    rw [limbs_pos h]
    by_cases e : n / 1000000000 = 0
    · rw [e, limbs_zero]; simp; omega
    · have := ih _ (by omega) e
      have hne : limbs (n / 1000000000) ≠ [] := fun e' => e (limbs_eq_nil.1 e')
      cases hl : limbs (n / 1000000000) with
      | nil => exact absurd hl hne
      | cons a l => rw [hl] at this; simpa using this
theorem limbs_inj {a b : Nat} (h : limbs a = limbs b) : a = b := by
  have h1 := val_limbs a
  have h2 := val_limbs b
  rw [h] at h1
  omega
/-- A number of k limbs is at least the base to the power of k - 1. -/
theorem limbs_ge {n : Nat} (h : n ≠ 0) : (1000000000 : Int) ^ ((limbs n).length - 1) ≤ n := by
  have h1 := limbs_last h
  have h2 := lb_limbs n
  have h3 := val_limbs n
  have hne : limbs n ≠ [] := fun e => h (limbs_eq_nil.1 e)
  have hpos : 0 < (limbs n).length := List.length_pos_iff.2 hne
  have h4 : vs (limbs n) ((limbs n).length - 1 + 1) = val (limbs n) := by rw [Nat.sub_add_cancel hpos]; exact vs_val _
  unfold vs at h4
  have h5 := vs_lt h2 ((limbs n).length - 1)
  have h6 := h2.all ((limbs n).length - 1)
  have hp := pow_pos' ((limbs n).length - 1)
  have h7 : 1 * (1000000000 : Int) ^ ((limbs n).length - 1) ≤ (limbs n).getD ((limbs n).length - 1) 0 * 1000000000 ^ ((limbs n).length - 1) := Int.mul_le_mul_of_nonneg_right (by omega) (Int.le_of_lt hp)
  omega
theorem limbs_lt (n : Nat) : (n : Int) < 1000000000 ^ (limbs n).length := by
  have h := val_lt (lb_limbs n)
  rw [val_limbs] at h
  exact h.2
theorem pow_le' {a b : Nat} (h : a ≤ b) : (1000000000 : Int) ^ a ≤ 1000000000 ^ b := by
  have h1 := Nat.pow_le_pow_right (show 0 < 1000000000 by omega) h
  have h2 : ((1000000000 ^ a : Nat) : Int) ≤ ((1000000000 ^ b : Nat) : Int) := by omega
  simpa using h2
theorem lt_of_len {a b : Nat} (h : (limbs a).length < (limbs b).length) : a < b := by
  have hb : b ≠ 0 := by rintro rfl; rw [limbs_zero] at h; simp at h
  have h1 := limbs_lt a
  have h2 := limbs_ge hb
  have h3 := pow_le' (show (limbs a).length ≤ (limbs b).length - 1 by omega)
  omega

end Go.Proofs.Ytikpdkgamcecjaa
