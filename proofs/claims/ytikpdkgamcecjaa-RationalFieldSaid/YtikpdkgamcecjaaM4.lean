/- Plain mathematics: the operations on numbers. -/
import Derived.Test.YtikpdkgamcecjaaR15
import Derived.Test.YtikpdkgamcecjaaK1
namespace Go.Proofs.Ytikpdkgamcecjaa
open Go.RowKit

theorem mk_int (n : Int) : mkRat (sg (decide (n < 0)) n.natAbs) 1 = (n : Rat) := by rw [sg_abs, Rat.mkRat_one]
theorem raw_int (n : Int) : raw (n : Rat) = ⟨decide (n < 0), limbs n.natAbs, [1]⟩ := by
  unfold raw
  rw [Rat.num_intCast, Rat.den_intCast, limbs_one]
/-- The absolute value. -/
def rabs (q : Rat) : Rat := ⟨q.num.natAbs, q.den, q.den_nz, by simpa using q.reduced⟩
theorem raw_rabs (q : Rat) : raw (rabs q) = ⟨false, (raw q).num, (raw q).den⟩ := by
  unfold raw rabs
  have h : decide ((q.num.natAbs : Int) < 0) = false := by simp
  simp only [h, Int.natAbs_natCast]
theorem raw_neg (q : Rat) : raw (-q) = ⟨!(raw q).neg && decide ((raw q).num ≠ []), (raw q).num, (raw q).den⟩ := by
  unfold raw
  simp only [Rat.neg_num, Rat.neg_den, Int.natAbs_neg]
  congr 1
  have e : (limbs q.num.natAbs ≠ []) ↔ q.num ≠ 0 := by
    rw [ne_eq, limbs_eq_nil]; omega
  by_cases h : q.num < 0
  · have : ¬ (-q.num < 0) := by omega
    simp [h]; omega
  · by_cases h0 : q.num = 0
    · simp [h0, limbs_zero]
    · have : -q.num < 0 := by omega
      have h1 : limbs q.num.natAbs ≠ [] := e.2 h0
      simp [h, h1]; omega
theorem sg_not (neg : Bool) (a : Nat) : sg (!neg) a = - sg neg a := by unfold sg; cases neg <;> simp
theorem neg_qv (neg : Bool) (a b : Nat) : mkRat (sg (!neg) a) b = - mkRat (sg neg a) b := by rw [sg_not, Rat.neg_mkRat]
theorem rat_ext {p q : Rat} (h1 : p.num = q.num) (h2 : p.den = q.den) : p = q := Rat.ext h1 h2
theorem abs_qv (neg : Bool) (a b : Nat) : mkRat (sg false a) b = rabs (mkRat (sg neg a) b) := by
  cases neg
  · apply Rat.ext
    · show _ = ((mkRat (sg false a) b).num.natAbs : Int)
      have h : 0 ≤ mkRat (sg false a) b := by
        unfold sg
        simp only [Bool.false_eq_true, ↓reduceIte]
        rw [← Rat.num_nonneg, Rat.num_mkRat]
        split
        · exact Int.le_refl _
        · exact Int.ediv_nonneg (by omega) (by omega)
      have := Rat.num_nonneg.2 h
      omega
    · rfl
  · have e : mkRat (sg true a) b = - mkRat (sg false a) b := by rw [← neg_qv]; rfl
    rw [e]
    have h : 0 ≤ mkRat (sg false a) b := by
      unfold sg
      simp only [Bool.false_eq_true, ↓reduceIte]
      rw [← Rat.num_nonneg, Rat.num_mkRat]
      split
      · exact Int.le_refl _
      · exact Int.ediv_nonneg (by omega) (by omega)
    have h9 := Rat.num_nonneg.2 h
    apply Rat.ext
    · show _ = ((- mkRat (sg false a) b).num.natAbs : Int)
      rw [Rat.neg_num]; omega
    · show _ = (- mkRat (sg false a) b).den
      rw [Rat.neg_den]
theorem rat_add (X Y : Rat) : mkRat (sg (decide (X.num < 0)) (X.num.natAbs * Y.den) + sg (decide (Y.num < 0)) (Y.num.natAbs * X.den)) (X.den * Y.den) = X + Y := by
  have e1 : sg (decide (X.num < 0)) (X.num.natAbs * Y.den) = X.num * Y.den := by
    have := sg_mul (decide (X.num < 0)) false X.num.natAbs Y.den
    rw [sg_abs] at this
    have h0 : sg false Y.den = (Y.den : Int) := rfl
    rw [h0] at this
    rw [this]; simp
  have e2 : sg (decide (Y.num < 0)) (Y.num.natAbs * X.den) = Y.num * X.den := by
    have := sg_mul (decide (Y.num < 0)) false Y.num.natAbs X.den
    rw [sg_abs] at this
    have h0 : sg false X.den = (X.den : Int) := rfl
    rw [h0] at this
    rw [this]; simp
  rw [e1, e2, ← Rat.mkRat_add_mkRat _ _ X.den_nz Y.den_nz, Rat.mkRat_self, Rat.mkRat_self]
theorem sg_same (n : Bool) (a b : Nat) : sg n (a + b) = sg n a + sg n b := by unfold sg; cases n <;> simp <;> omega
theorem sg_ge {m n : Bool} {a b : Nat} (h : m ≠ n) (hb : b ≤ a) : sg m (a - b) = sg m a + sg n b := by
  unfold sg; cases m <;> cases n <;> simp at h ⊢ <;> omega
theorem sg_le {m n : Bool} {a b : Nat} (h : m ≠ n) (hb : a ≤ b) : sg n (b - a) = sg m a + sg n b := by
  unfold sg; cases m <;> cases n <;> simp at h ⊢ <;> omega
/-- The sign. -/
def sgnZ (q : Rat) : Int := if q.num = 0 then 0 else if q.num < 0 then -1 else 1
theorem sgnZ_neg (q : Rat) : sgnZ (-q) = - sgnZ q := by
  unfold sgnZ; rw [Rat.neg_num]; split <;> split <;> (try split) <;> (try split) <;> omega
theorem sgnZ_zero {q : Rat} : sgnZ q = 0 ↔ q = 0 := by
  rw [← Rat.num_eq_zero]; unfold sgnZ; split
  · simp_all
  · split <;> simp_all
theorem sgnZ_pos {q : Rat} : 0 < sgnZ q ↔ 0 < q := by
  have h1 := @Rat.num_nonneg q
  have h2 := @Rat.num_eq_zero q
  constructor
  · intro h
    have h3 : 0 ≤ q.num ∧ q.num ≠ 0 := by
      unfold sgnZ at h; split at h
      · omega
      · split at h <;> omega
    exact Rat.lt_of_le_of_ne (h1.1 h3.1) (fun e => h3.2 (h2.2 e.symm))
  · intro h
    have h3 : 0 ≤ q.num := h1.2 (Rat.le_of_lt h)
    have h4 : q.num ≠ 0 := fun e => by rw [h2.1 e] at h; exact Rat.lt_irrefl h
    unfold sgnZ
    rw [if_neg h4, if_neg (by omega)]; omega
theorem sgnZ_lt {q : Rat} : sgnZ q < 0 ↔ q < 0 := by
  have h1 := sgnZ_neg q
  have h2 := @sgnZ_pos (-q)
  constructor
  · intro h
    have := h2.1 (by omega)
    grind
  · intro h
    have := h2.2 (by grind)
    omega
theorem sgnZ_bd (q : Rat) : -1 ≤ sgnZ q ∧ sgnZ q ≤ 1 := by unfold sgnZ; split; omega; split <;> omega
theorem sgnZ_of (p q : Rat) (h1 : 0 < p ↔ 0 < q) (h2 : p < 0 ↔ q < 0) : sgnZ p = sgnZ q := by
  have a1 := @sgnZ_pos p
  have a2 := @sgnZ_pos q
  have a3 := @sgnZ_lt p
  have a4 := @sgnZ_lt q
  have a5 := sgnZ_bd p
  have a6 := sgnZ_bd q
  have b1 : 0 < sgnZ p ↔ 0 < sgnZ q := by rw [a1, a2, h1]
  have b2 : sgnZ p < 0 ↔ sgnZ q < 0 := by rw [a3, a4, h2]
  omega
/-- The greatest integer that is not above. -/
def flr (q : Rat) : Rat := ((q.num / (q.den : Int) : Int) : Rat)
theorem floor_eq (q : Rat) : q.floor = q.num / (q.den : Int) := by
  unfold Rat.floor
  split
  · rename_i h; rw [h]; simp
  · rfl
theorem flr_le (q : Rat) : flr q ≤ q := by unfold flr; rw [← floor_eq]; exact Rat.floor_le q
theorem lt_flr (q : Rat) : q < flr q + 1 := by
  have := Rat.lt_floor_add_one q
  rw [Rat.intCast_add, floor_eq] at this
  exact this
theorem flr_sg (q : Rat) : mkRat (sg (decide (q.num < 0)) (q.num.natAbs / q.den + (if decide (q.num < 0) = true ∧ q.num.natAbs % q.den ≠ 0 then 1 else 0))) 1 = flr q := by
  rw [Rat.mkRat_one]
  unfold flr
  congr 1
  obtain ⟨d, hd'⟩ : ∃ d, d = q.den := ⟨_, rfl⟩
  have hd : (0 : Int) < d := by have := q.den_nz; omega
  obtain ⟨n, hn⟩ : ∃ n, n = q.num := ⟨_, rfl⟩
  rw [← hd', ← hn]
  by_cases h : n < 0
  · obtain ⟨a, rfl⟩ : ∃ a : Nat, n = -(a : Int) := ⟨n.natAbs, by omega⟩
    simp only [h, Int.natAbs_neg, Int.natAbs_natCast, decide_true, true_and]
    unfold sg
    simp only [↓reduceIte]
    have e1 : (a : Int) / d = ((a / d : Nat) : Int) := by simp
    have e2 : (a : Int) % d = ((a % d : Nat) : Int) := by simp
    by_cases h2 : a % d = 0
    · rw [if_neg (by simpa using h2)]
      have h3 : (d : Int) ∣ a := Int.dvd_of_emod_eq_zero (by rw [e2, h2]; rfl)
      rw [Int.neg_ediv_of_dvd h3, e1]; simp
    · rw [if_pos h2]
      have e3 := Nat.div_add_mod a d
      have hd0 : 0 < d := by omega
      have e4 : a % d < d := Nat.mod_lt _ hd0
      obtain ⟨k, hk⟩ : ∃ k, k = a / d := ⟨_, rfl⟩
      obtain ⟨m, hm⟩ : ∃ m, m = a % d := ⟨_, rfl⟩
      rw [← hk, ← hm] at e3
      rw [← hm] at e4 h2
      rw [← hk]
      have e5 : (a : Int) = d * (k : Int) + (m : Int) := by rw [← Int.natCast_mul, ← Int.natCast_add, e3]
      have e6 := div_of (U := -(a : Int)) (V := d) (q := -(((k + 1 : Nat)) : Int)) (r := (d : Int) - (m : Int)) (by
        rw [Int.neg_mul, Int.natCast_add, Int.add_mul, Int.mul_comm (k : Int), e5]; omega) (by omega) (by omega)
      rw [e6.1]
  · obtain ⟨a, rfl⟩ : ∃ a : Nat, n = (a : Int) := ⟨n.natAbs, by omega⟩
    have h' : decide ((a : Int) < 0) = false := by simp
    simp only [h', Int.natAbs_natCast, Bool.false_eq_true, false_and, ↓reduceIte, Nat.add_zero]
    unfold sg
    simp
/-- Bounds. -/
theorem mk_num_le (n : Int) (d : Nat) : (mkRat n d).num.natAbs ≤ n.natAbs := by
  rw [Rat.num_mkRat]
  split
  · simp
  · have : n / ((d.gcd n.natAbs : Nat) : Int) = n.tdiv ((d.gcd n.natAbs : Nat) : Int) := (Int.tdiv_eq_ediv_of_dvd (Int.ofNat_dvd_left.2 (Nat.gcd_dvd_right _ _))).symm
    rw [this, Int.natAbs_tdiv, Int.natAbs_natCast]
    exact Nat.div_le_self _ _
theorem mk_den_le (n : Int) (d : Nat) (hd : d ≠ 0) : (mkRat n d).den ≤ d := by
  rw [Rat.den_mkRat, if_neg hd]
  exact Nat.div_le_self _ _
theorem lb_u32 {xs : List Int} (h : Lb xs) : U32 xs := fun j hj => by have := h j hj; omega
theorem good_raw {L : Nat} {q : Rat} (h1 : (limbs q.num.natAbs).length ≤ L) (h2 : (limbs q.den).length ≤ L) : Good L (raw q) := ⟨lb_u32 (lb_limbs _), lb_u32 (lb_limbs _), h1, h2⟩
theorem good_len {L : Nat} {q : Rat} (h : Good L (raw q)) : (limbs q.num.natAbs).length ≤ L ∧ (limbs q.den).length ≤ L := ⟨h.ln, h.ld⟩
theorem good_qv {L : Nat} {r : Raw} (g : Good L r) : Good (L + 1) (raw (qv r)) := good_raw (raw_len g).1 (raw_len g).2
theorem good_neg {L : Nat} {q : Rat} (h : Good L (raw q)) : Good L (raw (-q)) := by
  obtain ⟨h1, h2⟩ := good_len h
  exact good_raw (by rw [Rat.neg_num, Int.natAbs_neg]; exact h1) (by rw [Rat.neg_den]; exact h2)
theorem good_mk {L : Nat} {n : Int} {d : Nat} (hd : d ≠ 0) (h1 : (limbs n.natAbs).length ≤ L) (h2 : (limbs d).length ≤ L) : Good L (raw (mkRat n d)) :=
  good_raw (Nat.le_trans (limbs_mono (mk_num_le n d)) h1) (Nat.le_trans (limbs_mono (mk_den_le n d hd)) h2)
theorem good_mul {L M : Nat} {p q : Rat} (h : Good L (raw p)) (k : Good M (raw q)) : Good (L + M) (raw (p * q)) := by
  obtain ⟨h1, h2⟩ := good_len h
  obtain ⟨k1, k2⟩ := good_len k
  have e : p * q = mkRat (p.num * q.num) (p.den * q.den) := by rw [← Rat.mkRat_mul_mkRat, Rat.mkRat_self, Rat.mkRat_self]
  rw [e]
  refine good_mk (Nat.mul_ne_zero p.den_nz q.den_nz) ?_ ?_
  · rw [Int.natAbs_mul]; have := limbs_len_mul p.num.natAbs q.num.natAbs; omega
  · have := limbs_len_mul p.den q.den; omega
theorem good_add {L M : Nat} {p q : Rat} (h : Good L (raw p)) (k : Good M (raw q)) : Good (L + M + 1) (raw (p + q)) := by
  obtain ⟨h1, h2⟩ := good_len h
  obtain ⟨k1, k2⟩ := good_len k
  have e : p + q = mkRat (p.num * q.den + q.num * p.den) (p.den * q.den) := by rw [← Rat.mkRat_add_mkRat _ _ p.den_nz q.den_nz, Rat.mkRat_self, Rat.mkRat_self]
  rw [e]
  refine good_mk (Nat.mul_ne_zero p.den_nz q.den_nz) ?_ ?_
  · have a1 := limbs_len_mul p.num.natAbs q.den
    have a2 := limbs_len_mul q.num.natAbs p.den
    have a3 := limbs_len_add (p.num.natAbs * q.den) (q.num.natAbs * p.den) (L + M) (by omega) (by omega)
    have a4 : (p.num * q.den + q.num * p.den).natAbs ≤ p.num.natAbs * q.den + q.num.natAbs * p.den := by
      refine Nat.le_trans (Int.natAbs_add_le _ _) ?_
      rw [Int.natAbs_mul, Int.natAbs_mul, Int.natAbs_natCast, Int.natAbs_natCast]
      exact Nat.le_refl _
    have := limbs_mono a4
    omega
  · have := limbs_len_mul p.den q.den; omega
theorem good_sub {L M : Nat} {p q : Rat} (h : Good L (raw p)) (k : Good M (raw q)) : Good (L + M + 1) (raw (p - q)) := by
  rw [Rat.sub_eq_add_neg]; exact good_add h (good_neg k)
theorem good_div {L M : Nat} {p q : Rat} (h : Good L (raw p)) (k : Good M (raw q)) (hL : 1 ≤ L + M) : Good (L + M) (raw (p / q)) := by
  obtain ⟨h1, h2⟩ := good_len h
  obtain ⟨k1, k2⟩ := good_len k
  by_cases hq : q.num = 0
  · rw [rat_div_zero p q hq]
    refine good_raw ?_ ?_
    · show (limbs 0).length ≤ _; rw [limbs_zero]; simp
    · show (limbs 1).length ≤ _; rw [limbs_one]; simpa using hL
  · rw [← rat_div p q hq]
    refine good_mk (Nat.mul_ne_zero p.den_nz (by omega)) ?_ ?_
    · rw [natAbs_sg]; have := limbs_len_mul p.num.natAbs q.den; omega
    · have := limbs_len_mul p.den q.num.natAbs; omega
theorem good_int {n : Int} {L : Nat} (h : (limbs n.natAbs).length ≤ L) (hL : 1 ≤ L) : Good L (raw (n : Rat)) := by
  refine good_raw ?_ ?_
  · rw [Rat.num_intCast]; exact h
  · rw [Rat.den_intCast, limbs_one]; exact hL
theorem small_good {r : Raw} (h : smallB r = true) (h1 : U32 r.num) (h2 : U32 r.den) : Good 8 r := by
  unfold smallB at h
  simp at h
  exact ⟨h1, h2, h.1, h.2⟩
end Go.Proofs.Ytikpdkgamcecjaa
