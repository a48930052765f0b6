/- Plain words on numbers as the program keeps them: a sign, a numerator and a denominator in limbs. -/
import Derived.Test.YtikpdkgamcecjaaM2
namespace Go.Proofs.Ytikpdkgamcecjaa
set_option linter.unusedVariables false
set_option linter.unusedSimpArgs false

/-- A number as it lies in memory. -/
structure Raw where
  neg : Bool
  num : List Int
  den : List Int
def sg (neg : Bool) (a : Nat) : Int := if neg = true then -(a : Int) else a
/-- Its value; 0 where the denominator is 0. -/
def qv (r : Raw) : Rat := mkRat (sg r.neg (val r.num).toNat) (val r.den).toNat
/-- The canonical form of a value. -/
def raw (q : Rat) : Raw := ⟨decide (q.num < 0), limbs q.num.natAbs, limbs q.den⟩
theorem sg_abs (q : Int) : sg (decide (q < 0)) q.natAbs = q := by
  unfold sg; by_cases h : q < 0 <;> simp [h] <;> omega
theorem qv_raw (q : Rat) : qv (raw q) = q := by
  unfold qv raw
  simp only [val_limbs, Int.toNat_natCast, sg_abs]
  exact Rat.mkRat_self q
theorem natAbs_sg (neg : Bool) (a : Nat) : (sg neg a).natAbs = a := by
  unfold sg; cases neg <;> simp
theorem sg_neg (neg : Bool) (a : Nat) (ha : a ≠ 0) : decide (sg neg a < 0) = neg := by
  unfold sg; cases neg <;> simp <;> omega
theorem sg_mul (m n : Bool) (a b : Nat) : sg m a * sg n b = sg (m != n) (a * b) := by
  unfold sg; cases m <;> cases n <;> simp [Int.natCast_mul, Int.mul_neg, Int.neg_mul]
theorem sg_div (neg : Bool) (a g : Nat) (h : g ∣ a) : sg neg a / (g : Int) = sg neg (a / g) := by
  unfold sg
  obtain ⟨c, rfl⟩ := h
  by_cases hg : g = 0
  · subst hg; cases neg <;> simp
  · have e : g * c / g = c := Nat.mul_div_cancel_left c (by omega)
    rw [e]
    cases neg
    · simp only [Bool.false_eq_true, if_false, Int.natCast_mul]
      exact Int.mul_ediv_cancel_left _ (by omega)
    · simp only [if_true, Int.natCast_mul]
      rw [← Int.mul_neg]
      exact Int.mul_ediv_cancel_left _ (by omega)
/-- What 'made' gives: the parts divided by their greatest common divisor. -/
theorem raw_made (neg : Bool) (a b : Nat) (ha : a ≠ 0) (hb : b ≠ 0) : raw (mkRat (sg neg a) b) = ⟨neg, limbs (a / a.gcd b), limbs (b / a.gcd b)⟩ := by
  have hg : a.gcd b ∣ a := Nat.gcd_dvd_left a b
  have hgp : 0 < a.gcd b := Nat.gcd_pos_of_pos_left b (by omega)
  have hq : a / a.gcd b ≠ 0 := by
    have := Nat.div_pos (Nat.le_of_dvd (by omega) hg) hgp
    omega
  unfold raw
  rw [Rat.num_mkRat, Rat.den_mkRat, natAbs_sg, if_neg hb, if_neg hb, Nat.gcd_comm b a, sg_div neg a _ hg, natAbs_sg, sg_neg neg _ hq]
theorem raw_zero : raw 0 = ⟨false, [], [1]⟩ := by
  unfold raw
  have h1 : (0 : Rat).num = 0 := rfl
  have h2 : (0 : Rat).den = 1 := rfl
  rw [h1, h2]
  simp [limbs_zero, limbs_pos]
theorem limbs_one : limbs 1 = [1] := by rw [limbs_pos (by omega)]; simp [limbs_zero]
/-- Lengths. -/
theorem limbs_mono {a b : Nat} (h : a ≤ b) : (limbs a).length ≤ (limbs b).length := by
  by_cases c : (limbs a).length ≤ (limbs b).length
  · exact c
  · have := lt_of_len (a := b) (b := a) (by omega)
    omega
/-- A number below the base to the power of n has at most n limbs. -/
theorem limbs_len {a n : Nat} (h : (a : Int) < 1000000000 ^ n) : (limbs a).length ≤ n := by
  by_cases h0 : a = 0
  · subst h0; rw [limbs_zero]; simp
  · by_cases c : (limbs a).length ≤ n
    · exact c
    · exfalso
      have h2 := limbs_ge h0
      have h3 : (1000000000 : Int) ^ n ≤ 1000000000 ^ ((limbs a).length - 1) := by
        have h1 := Nat.pow_le_pow_right (show 0 < 1000000000 by omega) (show n ≤ (limbs a).length - 1 by omega)
        have h2 : ((1000000000 ^ n : Nat) : Int) ≤ ((1000000000 ^ ((limbs a).length - 1) : Nat) : Int) := by omega
        simpa using h2
      omega
theorem limbs_len_mul (a b : Nat) : (limbs (a * b)).length ≤ (limbs a).length + (limbs b).length := by
  refine limbs_len ?_
  have h1 := limbs_lt a
  have h2 := limbs_lt b
  rw [Int.pow_add, Int.natCast_mul]
  have := pow_pos' (limbs a).length
  have := pow_pos' (limbs b).length
  by_cases hb : b = 0
  · subst hb
    have h9 := Int.mul_pos (pow_pos' (limbs a).length) (pow_pos' (limbs 0).length)
    simpa using h9
  · calc (a : Int) * b < 1000000000 ^ (limbs a).length * b := Int.mul_lt_mul_of_pos_right h1 (by omega)
      _ ≤ 1000000000 ^ (limbs a).length * 1000000000 ^ (limbs b).length := Int.mul_le_mul_of_nonneg_left (by omega) (by omega)
theorem limbs_len_add (a b : Nat) (n : Nat) (ha : (limbs a).length ≤ n) (hb : (limbs b).length ≤ n) : (limbs (a + b)).length ≤ n + 1 := by
  refine limbs_len ?_
  have h1 := limbs_lt a
  have h2 := limbs_lt b
  have hp : ∀ m k : Nat, m ≤ k → (1000000000 : Int) ^ m ≤ 1000000000 ^ k := fun m k h => by
    have h1 := Nat.pow_le_pow_right (show 0 < 1000000000 by omega) h
    have h2 : ((1000000000 ^ m : Nat) : Int) ≤ ((1000000000 ^ k : Nat) : Int) := by omega
    simpa using h2
  have h3 := hp _ _ ha
  have h4 := hp _ _ hb
  rw [Int.pow_succ, Int.natCast_add]
  have := pow_pos' n
  omega
theorem limbs_len_div (a b : Nat) : (limbs (a / b)).length ≤ (limbs a).length := limbs_mono (Nat.div_le_self a b)
/-- A list of uint32 limbs denotes a number of at most one limb more. -/
theorem u32_len {xs : List Int} (h : ∀ j, j < xs.length → 0 ≤ xs.getD j 0 ∧ xs.getD j 0 < 4294967296) : 0 ≤ val xs ∧ (limbs (val xs).toNat).length ≤ xs.length + 1 := by
  have h2 : ∀ i, 0 ≤ vs xs i ∧ vs xs i < 10 * 1000000000 ^ i := by
    intro i
    induction i with
    | zero => simp [vs]
    | succ i ih =>
      have h3 : 0 ≤ xs.getD i 0 ∧ xs.getD i 0 < 4294967296 := by
        by_cases c : i < xs.length
        · exact h i c
        · rw [getD_of_ge (by omega)]; omega
      have hp := pow_pos' i
      show 0 ≤ vs xs i + xs.getD i 0 * _ ∧ vs xs i + xs.getD i 0 * _ < _
      rw [Int.pow_succ]
      have h4 : 0 ≤ xs.getD i 0 * 1000000000 ^ i := Int.mul_nonneg h3.1 (Int.le_of_lt hp)
      have h5 : xs.getD i 0 * 1000000000 ^ i ≤ 4294967295 * 1000000000 ^ i := Int.mul_le_mul_of_nonneg_right (by omega) (Int.le_of_lt hp)
      omega
  have h3 := h2 xs.length
  rw [vs_val] at h3
  refine ⟨h3.1, limbs_len ?_⟩
  rw [Int.toNat_of_nonneg h3.1, Int.pow_succ]
  have := pow_pos' xs.length
  omega
end Go.Proofs.Ytikpdkgamcecjaa
