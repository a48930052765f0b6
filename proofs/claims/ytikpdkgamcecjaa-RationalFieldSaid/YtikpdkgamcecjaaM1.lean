/- Plain words on one step of a long division in base 10^9. -/
import Derived.Test.YtikpdkgamcecjaaM0
namespace Go.Proofs.Ytikpdkgamcecjaa
set_option linter.unusedVariables false
set_option linter.unusedSimpArgs false

/-- The sum of the i limbs from place j on. -/
def ws (zs : List Int) (j : Nat) : Nat → Int
  | 0 => 0
  | i + 1 => ws zs j i + zs.getD (j + i) 0 * 1000000000 ^ i
theorem ws_zero (zs : List Int) : ∀ i, ws zs 0 i = vs zs i
  | 0 => rfl
  | i + 1 => by show ws zs 0 i + zs.getD (0 + i) 0 * _ = vs zs i + _; rw [ws_zero zs i, Nat.zero_add]
theorem ws_vs (zs : List Int) (j : Nat) : ∀ i, vs zs (j + i) = vs zs j + 1000000000 ^ j * ws zs j i
  | 0 => by simp [ws]
  | i + 1 => by
    show vs zs (j + i) + zs.getD (j + i) 0 * 1000000000 ^ (j + i) = vs zs j + 1000000000 ^ j * (ws zs j i + zs.getD (j + i) 0 * 1000000000 ^ i)
    rw [ws_vs zs j i, Int.pow_add]
    grind
theorem ws_set (zs : List Int) (j k : Nat) (t : Int) : ∀ i, i ≤ k → ws (zs.set (j + k) t) j i = ws zs j i
  | 0, _ => rfl
  | i + 1, h => by
    show ws (zs.set (j + k) t) j i + (zs.set (j + k) t).getD (j + i) 0 * _ = ws zs j i + _
    rw [ws_set zs j k t i (by omega)]
    congr 2
    simp [List.getD_eq_getElem?_getD, List.getElem?_set, show ¬ k = i by omega]
theorem ws_congr {zs ys : List Int} {j : Nat} : ∀ i, (∀ k, k < i → zs.getD (j + k) 0 = ys.getD (j + k) 0) → ws zs j i = ws ys j i
  | 0, _ => rfl
  | i + 1, h => by
    show ws zs j i + zs.getD (j + i) 0 * _ = ws ys j i + ys.getD (j + i) 0 * _
    rw [ws_congr i (fun k hk => h k (by omega)), h i (by omega)]
theorem ws_lt {zs : List Int} {j : Nat} : ∀ i, (∀ k, k < i → 0 ≤ zs.getD (j + k) 0 ∧ zs.getD (j + k) 0 < 1000000000) → 0 ≤ ws zs j i ∧ ws zs j i < 1000000000 ^ i
  | 0, _ => by simp [ws]
  | i + 1, h => by
    obtain ⟨h1, h2⟩ := ws_lt i (fun k hk => h k (by omega))
    obtain ⟨h3, h4⟩ := h i (by omega)
    have hp := pow_pos' i
    show 0 ≤ ws zs j i + zs.getD (j + i) 0 * _ ∧ ws zs j i + zs.getD (j + i) 0 * _ < _
    rw [Int.pow_succ]
    constructor
    · have := Int.mul_nonneg h3 (Int.le_of_lt hp); omega
    · have h5 : zs.getD (j + i) 0 * 1000000000 ^ i ≤ 999999999 * 1000000000 ^ i := Int.mul_le_mul_of_nonneg_right (by omega) (Int.le_of_lt hp)
      omega

/-- The number's two and three first limbs: U = u P + x, V = v P + y, with P a power of the base. -/
theorem guess_ge {U V u v x y P q : Int} (hP : 0 < P) (hU : U = u * P + x) (hV : V = v * P + y) (hx : x < P) (hy : 0 ≤ y) (hq : 0 ≤ q) (h : q * V ≤ U) : q * v ≤ u := by
  have h1 : q * V = q * v * P + q * y := by rw [hV]; grind
  have h2 : 0 ≤ q * y := Int.mul_nonneg hq hy
  have h3 : q * v * P < (u + 1) * P := by rw [Int.add_mul]; omega
  have := Int.lt_of_mul_lt_mul_right h3 (Int.le_of_lt hP)
  omega
theorem guess_le {U V u v x y P g : Int} (hP : 0 < P) (hU : U = u * P + x) (hV : V = v * P + y) (hx : 0 ≤ x) (hy : 0 ≤ y ∧ y < P) (hg : 0 ≤ g) (hv : 0 ≤ v) (hgv : g ≤ v + 1) (h : g * v ≤ u) : (g - 1) * V ≤ U := by
  by_cases h0 : g = 0
  · subst h0
    rw [Int.zero_mul] at h
    have h1 := Int.mul_nonneg hv (Int.le_of_lt hP)
    have h2 := Int.mul_nonneg h (Int.le_of_lt hP)
    rw [hU, hV]
    omega
  · have h1 : (g - 1) * y ≤ (g - 1) * P := Int.mul_le_mul_of_nonneg_left (by omega) (by omega)
    have h2 : (g - 1) * V = g * v * P - v * P + (g - 1) * y := by rw [hV]; grind
    have h3 : g * v * P ≤ u * P := Int.mul_le_mul_of_nonneg_right h (by omega)
    have h4 : (g - 1) * P ≤ v * P := Int.mul_le_mul_of_nonneg_right (by omega) (by omega)
    omega
/-- The guess of a digit: the three first limbs u0 u1 u2 of U by the two first limbs v1 v2 of V. -/
structure Top (U V u0 u1 u2 v1 v2 : Int) : Prop where
  mk ::
  hu0 : 0 ≤ u0 ∧ u0 < 1000000000
  hu1 : 0 ≤ u1 ∧ u1 < 1000000000
  hu2 : 0 ≤ u2 ∧ u2 < 1000000000
  hv1 : 500000000 ≤ v1 ∧ v1 < 1000000000
  hv2 : 0 ≤ v2 ∧ v2 < 1000000000
  ends : ∃ P x y, 0 < P ∧ U = ((u0 * 1000000000 + u1) * 1000000000 + u2) * P + x ∧ V = (v1 * 1000000000 + v2) * P + y ∧ 0 ≤ x ∧ x < P ∧ 0 ≤ y ∧ y < P
  lt : U < 1000000000 * V
/-- What holds in the loop that lowers the guess g, its rest r. -/
def GS (U V u0 u1 v1 g r : Int) : Prop := g * v1 + r = u0 * 1000000000 + u1 ∧ 0 ≤ g ∧ g ≤ 1000000001 ∧ 0 ≤ r ∧ U < (g + 1) * V
theorem Top.vpos {U V u0 u1 u2 v1 v2 : Int} (h : Top U V u0 u1 u2 v1 v2) : 0 < V ∧ 0 ≤ U := by
  obtain ⟨a1, a2, a3, a4, a5, ⟨P, x, y, hP, hU, hV, hx, _, hy, _⟩, _⟩ := h
  constructor
  · have h1 : 1 * P ≤ (v1 * 1000000000 + v2) * P := Int.mul_le_mul_of_nonneg_right (by omega) (by omega)
    omega
  · have h1 : 0 ≤ ((u0 * 1000000000 + u1) * 1000000000 + u2) * P := Int.mul_nonneg (by omega) (by omega)
    omega
/-- u0 is at most v1. -/
theorem Top.u0_le {U V u0 u1 u2 v1 v2 : Int} (h : Top U V u0 u1 u2 v1 v2) : u0 ≤ v1 := by
  obtain ⟨a1, a2, a3, a4, a5, ⟨P, x, y, hP, hU, hV, hx, _, hy, hyP⟩, hlt⟩ := h
  by_cases hh : u0 ≤ v1
  · exact hh
  · exfalso
    have e1 : 1000000000 * V = (1000000000 * (v1 * 1000000000 + v2)) * P + 1000000000 * y := by rw [hV]; grind
    have e2 : (1000000000 * (v1 * 1000000000 + v2) + 1000000000) * P ≤ ((u0 * 1000000000 + u1) * 1000000000 + u2) * P := Int.mul_le_mul_of_nonneg_right (by omega) (by omega)
    rw [Int.add_mul] at e2
    omega
theorem gs_start {U V u0 u1 u2 v1 v2 : Int} (h : Top U V u0 u1 u2 v1 v2) : GS U V u0 u1 v1 ((u0 * 1000000000 + u1) / v1) ((u0 * 1000000000 + u1) % v1) ∧ (u0 * 1000000000 + u1) % v1 < 1000000000 := by
  have hu := h.u0_le
  have hv := h.vpos
  obtain ⟨a1, a2, a3, a4, a5, ⟨P, x, y, hP, hU, hV, hx, hxP, hy, hyP⟩, hlt⟩ := h
  have d1 : 0 ≤ (u0 * 1000000000 + u1) / v1 := Int.ediv_nonneg (by omega) (by omega)
  have d2 := Int.mul_ediv_add_emod (u0 * 1000000000 + u1) v1
  have d3 := Int.emod_nonneg (u0 * 1000000000 + u1) (show v1 ≠ 0 by omega)
  have d4 := Int.emod_lt_of_pos (u0 * 1000000000 + u1) (show 0 < v1 by omega)
  have d5 : (u0 * 1000000000 + u1) / v1 < 1000000002 := Int.ediv_lt_of_lt_mul (by omega) (by omega)
  generalize (u0 * 1000000000 + u1) / v1 = g at *
  generalize (u0 * 1000000000 + u1) % v1 = r at *
  refine ⟨⟨by rw [Int.mul_comm]; exact d2, d1, by omega, d3, ?_⟩, by omega⟩
  by_cases hh : U < (g + 1) * V
  · exact hh
  · exfalso
    have h1 := guess_ge (U := U) (V := V) (u := (u0 * 1000000000 + u1) * 1000000000 + u2) (v := v1 * 1000000000 + v2) (q := g + 1) hP hU hV hxP hy (by omega) (by omega)
    have h2 : (g + 1) * (v1 * 1000000000 + v2) = (g * v1 + v1) * 1000000000 + (g + 1) * v2 := by grind
    have h3 : 0 ≤ (g + 1) * v2 := Int.mul_nonneg (by omega) (by omega)
    rw [Int.mul_comm] at d2
    omega
/-- The loop's test: the guess is too great. -/
theorem gs_less {U V u0 u1 u2 v1 v2 g r : Int} (h : Top U V u0 u1 u2 v1 v2) (hg : GS U V u0 u1 v1 g r) (ht : 1000000000 ≤ g ∨ r * 1000000000 + u2 < g * v2) : GS U V u0 u1 v1 (g - 1) (r + v1) ∧ 1 ≤ g := by
  have hv := h.vpos
  obtain ⟨a1, a2, a3, a4, a5, ⟨P, x, y, hP, hU, hV, hx, hxP, hy, hyP⟩, hlt⟩ := h
  obtain ⟨b1, b2, b3, b4, b5⟩ := hg
  have h1 : 1 ≤ g := by
    rcases ht with ht | ht
    · omega
    · by_cases e : g = 0
      · subst e; omega
      · omega
  have h2 : U < g * V := by
    rcases ht with ht | ht
    · have : 1000000000 * V ≤ g * V := Int.mul_le_mul_of_nonneg_right ht (by omega)
      omega
    · by_cases hh : U < g * V
      · exact hh
      · exfalso
        have h3 := guess_ge (U := U) (V := V) (u := (u0 * 1000000000 + u1) * 1000000000 + u2) (v := v1 * 1000000000 + v2) (q := g) hP hU hV hxP hy b2 (by omega)
        have h4 : g * (v1 * 1000000000 + v2) = (g * v1) * 1000000000 + g * v2 := by grind
        omega
  refine ⟨⟨by rw [Int.sub_mul]; omega, by omega, by omega, by omega, by rw [Int.sub_add_cancel]; exact h2⟩, h1⟩
/-- Behind the loop: the guess is right, or one too great. -/
theorem gs_end {U V u0 u1 u2 v1 v2 g r : Int} (h : Top U V u0 u1 u2 v1 v2) (hg : GS U V u0 u1 v1 g r) (ht : 1000000000 ≤ r ∨ g < 1000000000 ∧ g * v2 ≤ r * 1000000000 + u2) : g < 1000000000 ∧ (g - 1) * V ≤ U ∧ U < (g + 1) * V := by
  have hu := h.u0_le
  obtain ⟨a1, a2, a3, a4, a5, ⟨P, x, y, hP, hU, hV, hx, hxP, hy, hyP⟩, hlt⟩ := h
  obtain ⟨b1, b2, b3, b4, b5⟩ := hg
  have hlt2 : g < 1000000000 := by
    rcases ht with ht | ht
    · by_cases hh : g < 1000000000
      · exact hh
      · have : 1000000000 * v1 ≤ g * v1 := Int.mul_le_mul_of_nonneg_right (by omega) (by omega)
        omega
    · exact ht.1
  refine ⟨hlt2, ?_, b5⟩
  have h4 : g * (v1 * 1000000000 + v2) = (g * v1) * 1000000000 + g * v2 := by grind
  refine guess_le (u := (u0 * 1000000000 + u1) * 1000000000 + u2) (v := v1 * 1000000000 + v2) hP hU hV hx ⟨hy, hyP⟩ b2 (by omega) (by omega) ?_
  rcases ht with ht | ht
  · have h5 : g * v2 ≤ 999999999 * 999999999 := Int.mul_le_mul (by omega) (by omega) (by omega) (by omega)
    omega
  · omega

/-- What holds in the loop that takes g V from the window of zs0 at j. -/
def TS (zs0 ys zs : List Int) (j : Nat) (g c b : Int) (i : Nat) : Prop :=
  zs.length = zs0.length ∧ (∀ k, k < j ∨ j + i ≤ k → zs.getD k 0 = zs0.getD k 0) ∧ (∀ k, k < i → 0 ≤ zs.getD (j + k) 0 ∧ zs.getD (j + k) 0 < 1000000000) ∧
    ws zs j i = ws zs0 j i - g * vs ys i + (c + b) * 1000000000 ^ i ∧ 0 ≤ c ∧ c < 1000000000 ∧ 0 ≤ b ∧ b ≤ 1 ∧ (ys.length < i → c = 0)
theorem ts_bd {g y c : Int} (hg : 0 ≤ g ∧ g < 1000000000) (hy : 0 ≤ y ∧ y < 1000000000) (hc : 0 ≤ c ∧ c < 1000000000) : 0 ≤ g * y ∧ g * y ≤ 999999998000000001 ∧ 0 ≤ c + g * y ∧ c + g * y < 1000000000 * 1000000000 := by
  have h1 : 0 ≤ g * y := Int.mul_nonneg hg.1 hy.1
  have h2 : g * y ≤ 999999999 * 999999999 := Int.mul_le_mul (by omega) (by omega) hy.1 (by omega)
  omega
theorem ts_step {zs0 ys zs : List Int} {j i : Nat} {g c b s t : Int} (h : TS zs0 ys zs j g c b i) (hj : j + i < zs0.length) (hi : i ≤ ys.length) (hg : 0 ≤ g ∧ g < 1000000000) (hy : 0 ≤ ys.getD i 0 ∧ ys.getD i 0 < 1000000000)
    (hs : s - t * 1000000000 = zs0.getD (j + i) 0 - ((c + g * ys.getD i 0) % 1000000000 + b)) (h0 : 0 ≤ s ∧ s < 1000000000) (h1 : 0 ≤ t ∧ t ≤ 1) :
    TS zs0 ys (zs.set (j + i) s) j g ((c + g * ys.getD i 0) / 1000000000) t (i + 1) := by
  obtain ⟨e1, e2, e3, e4, e5, e6, e7, e8, e9⟩ := h
  obtain ⟨b1, b2, b3, b4⟩ := ts_bd hg hy ⟨e5, e6⟩
  refine ⟨by simpa using e1, fun k hk => ?_, fun k hk => ?_, ?_, by omega, by omega, h1.1, h1.2, fun hl => ?_⟩
  · rw [getD_set_ne (by omega)]; exact e2 k (by omega)
  · by_cases e : k = i
    · subst e; rw [getD_set_self (by omega)]; exact h0
    · rw [getD_set_ne (by omega)]; exact e3 k (by omega)
  · show ws (zs.set (j + i) s) j i + (zs.set (j + i) s).getD (j + i) 0 * 1000000000 ^ i = (ws zs0 j i + zs0.getD (j + i) 0 * 1000000000 ^ i) - g * (vs ys i + ys.getD i 0 * 1000000000 ^ i) + _
    rw [ws_set _ _ _ _ _ (Nat.le_refl _), getD_set_self (by omega), e4, Int.pow_succ]
    have e : (c + g * ys.getD i 0) = 1000000000 * ((c + g * ys.getD i 0) / 1000000000) + (c + g * ys.getD i 0) % 1000000000 := by omega
    generalize (c + g * ys.getD i 0) / 1000000000 = q at *
    generalize (c + g * ys.getD i 0) % 1000000000 = r at *
    have hs2 : s = zs0.getD (j + i) 0 - (r + b) + t * 1000000000 := by omega
    have hr : r = c + g * ys.getD i 0 - 1000000000 * q := by omega
    rw [hs2, hr]
    grind
  · have : ys.getD i 0 = 0 := getD_of_ge (by omega)
    rw [this, Int.mul_zero, Int.add_zero]
    exact Int.ediv_eq_zero_of_lt e5 e6
/-- What holds in the loop that adds V again. -/
def BS (zs0 ys zs : List Int) (j : Nat) (c : Int) (i : Nat) : Prop :=
  zs.length = zs0.length ∧ (∀ k, k < j ∨ j + i ≤ k → zs.getD k 0 = zs0.getD k 0) ∧ (∀ k, k < i → 0 ≤ zs.getD (j + k) 0 ∧ zs.getD (j + k) 0 < 1000000000) ∧
    ws zs j i + c * 1000000000 ^ i = ws zs0 j i + vs ys i ∧ 0 ≤ c ∧ c ≤ 1
theorem bs_step {zs0 ys zs : List Int} {j i : Nat} {c s t : Int} (h : BS zs0 ys zs j c i) (hj : j + i < zs0.length) (hs : s + t * 1000000000 = zs0.getD (j + i) 0 + c + ys.getD i 0) (h0 : 0 ≤ s ∧ s < 1000000000) (h1 : 0 ≤ t ∧ t ≤ 1) :
    BS zs0 ys (zs.set (j + i) s) j t (i + 1) := by
  obtain ⟨e1, e2, e3, e4, e5, e6⟩ := h
  refine ⟨by simpa using e1, fun k hk => ?_, fun k hk => ?_, ?_, h1.1, h1.2⟩
  · rw [getD_set_ne (by omega)]; exact e2 k (by omega)
  · by_cases e : k = i
    · subst e; rw [getD_set_self (by omega)]; exact h0
    · rw [getD_set_ne (by omega)]; exact e3 k (by omega)
  · show ws (zs.set (j + i) s) j i + (zs.set (j + i) s).getD (j + i) 0 * 1000000000 ^ i + _ = (ws zs0 j i + zs0.getD (j + i) 0 * 1000000000 ^ i) + (vs ys i + ys.getD i 0 * 1000000000 ^ i)
    rw [ws_set _ _ _ _ _ (Nat.le_refl _), getD_set_self (by omega), Int.pow_succ]
    have hs2 : s = zs0.getD (j + i) 0 + c + ys.getD i 0 - t * 1000000000 := by omega
    rw [hs2]
    grind
theorem div_of {U V q r : Int} (h : U = q * V + r) (h0 : 0 ≤ r) (h1 : r < V) : U / V = q ∧ U % V = r := by
  constructor
  · rw [h, Int.add_comm, Int.add_mul_ediv_right _ _ (by omega), Int.ediv_eq_zero_of_lt h0 h1]; omega
  · rw [h, Int.add_comm, Int.add_mul_emod_self_right, Int.emod_eq_of_lt h0 h1]
/-- Nothing was borrowed: the guess was right. -/
theorem ts_end0 {zs0 ys zs : List Int} {j n : Nat} {g c : Int} (h : TS zs0 ys zs j g c 0 (n + 1)) (hn : ys.length = n) (hu : ws zs0 j (n + 1) < (g + 1) * vs ys n) :
    ws zs0 j (n + 1) / vs ys n = g ∧ ws zs j (n + 1) = ws zs0 j (n + 1) % vs ys n := by
  obtain ⟨e1, e2, e3, e4, e5, e6, e7, e8, e9⟩ := h
  have hc := e9 (by omega)
  subst hc
  have hv : vs ys (n + 1) = vs ys n := by rw [vs_ge ys (n + 1) (by omega), vs_ge ys n (by omega)]
  rw [hv] at e4
  have h0 := (ws_lt (n + 1) e3).1
  obtain ⟨h1, h2⟩ := div_of (U := ws zs0 j (n + 1)) (V := vs ys n) (q := g) (r := ws zs j (n + 1)) (by omega) h0 (by rw [Int.add_mul] at hu; omega)
  exact ⟨h1, h2.symm⟩
/-- Something was borrowed: one too many. -/
theorem ts_end1 {zs0 ys zs zs2 : List Int} {j n : Nat} {g c d : Int} (h : TS zs0 ys zs j g c 1 (n + 1)) (hn : ys.length = n) (hu : (g - 1) * vs ys n ≤ ws zs0 j (n + 1)) (ly : Lb ys) (hb : BS zs ys zs2 j d (n + 1)) :
    ws zs0 j (n + 1) / vs ys n = g - 1 ∧ ws zs2 j (n + 1) = ws zs0 j (n + 1) % vs ys n := by
  obtain ⟨e1, e2, e3, e4, e5, e6, e7, e8, e9⟩ := h
  obtain ⟨f1, f2, f3, f4, f5, f6⟩ := hb
  have hc := e9 (by omega)
  subst hc
  have hv : vs ys (n + 1) = vs ys n := by rw [vs_ge ys (n + 1) (by omega), vs_ge ys n (by omega)]
  rw [hv] at e4 f4
  have h0 := ws_lt (n + 1) e3
  have h2 := ws_lt (n + 1) f3
  have h3 := vs_lt ly n
  have h4 : (1000000000 : Int) ^ n ≤ 1000000000 ^ (n + 1) := by rw [Int.pow_succ]; have := pow_pos' n; omega
  have h5 : (g - 1) * vs ys n = g * vs ys n - vs ys n := by rw [Int.sub_mul]; omega
  have hd : d = 1 := by
    by_cases e : d = 1
    · exact e
    · have : d = 0 := by omega
      subst this
      omega
  subst hd
  obtain ⟨k1, k2⟩ := div_of (U := ws zs0 j (n + 1)) (V := vs ys n) (q := g - 1) (r := ws zs2 j (n + 1)) (by omega) h2.1 (by omega)
  exact ⟨k1, k2.symm⟩
end Go.Proofs.Ytikpdkgamcecjaa
