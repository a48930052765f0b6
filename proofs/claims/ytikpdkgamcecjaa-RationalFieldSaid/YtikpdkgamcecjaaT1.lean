/- The contracts of both sides, said of values. -/
import Derived.Test.YtikpdkgamcecjaaS8
import Derived.Test.YtikpdkgamcecjaaO1
namespace Go.Proofs.Ytikpdkgamcecjaa
open Go.RowKit
set_option linter.unusedSimpArgs false
set_option linter.unusedVariables false

/-- A number in memory: its value, at most L limbs each, canonical if c. -/
def Num (c : Bool) (L : Nat) (w : World) (v : Value) (q : Rat) : Prop := ∃ r, RdR w v r ∧ Good L r ∧ qv r = q ∧ (c = true → r = raw q)
section
variable {c d : Bool} {L M : Nat} {w w' : World} {v u : Value} {p q : Rat}
theorem Num.below (h : Num c L w v q) (hb : Below w.heap.size w w') : Num c L w' v q := by
  obtain ⟨r, h1, h2, h3, h4⟩ := h
  exact ⟨r, h1.below hb, h2, h3, h4⟩
theorem num_at (h : Hid (Num c L w v q)) (hb : Below w.heap.size w w') : Num c L w' v q := h.out.below hb
theorem Num.mk {ok : Nat → Prop} (h : RdRaw w ok v (raw q)) (g : Good L (raw q)) : Num true L w v q := ⟨raw q, h.now, g, qv_raw q, fun _ => rfl⟩
theorem Num.of {r : Raw} (h : RdR w v r) (g : Good L r) : Num false L w v (qv r) := ⟨r, h, g, rfl, fun h => by cases h⟩
theorem Num.open (h : Num c L w v q) : ∃ b A1 n1 c1 A2 n2 c2, v = .agg #[.bool b, .slice A1 n1 c1, .slice A2 n2 c2] := by
  obtain ⟨r, ⟨n, d, rfl, hn, hd⟩, _⟩ := h
  obtain ⟨A1, c1, rfl, _, _⟩ := hn.len
  obtain ⟨A2, c2, rfl, _, _⟩ := hd.len
  exact ⟨_, _, _, _, _, _, _, rfl⟩
theorem Num.good (h : Num c L w v q) : Good (L + 1) (raw q) := by
  obtain ⟨r, h1, h2, rfl, h4⟩ := h
  exact good_qv h2
end
section
variable {c d : Bool} {L M : Nat} {w : World} {v u : Value} {p q : Rat}
theorem same_n (hv : Num true L w v p) (hu : Num true M w u q) (e : p = q) :
    Calls Try.prog 20 #[v, u] w fun e w' => e = .returned (.bool true) ∧ Below w.heap.size w w' := by
  obtain ⟨r, h1, h2, h3, h4⟩ := hv
  obtain ⟨s, k1, k2, k3, k4⟩ := hu
  rw [h4 rfl] at h1
  rw [k4 rfl] at k1
  subst e
  exact sameRat_yes v u _ w h1 k1
theorem good_abs {L : Nat} {q : Rat} (h : Good L (raw q)) : Good L (raw (rabs q)) := by
  rw [raw_rabs]
  exact ⟨h.num, h.den, h.ln, h.ld⟩
theorem canon_n (hv : Num c L w v p) (hL : L ≤ 100000) :
    Calls Try.prog 48 #[v] w fun e w' => ∃ z, e = .returned z ∧ Num true (L + 1) w' z (p) ∧ Below w.heap.size w w' := by
  have hg := hv.good
  obtain ⟨r, h1, h2, rfl, h4⟩ := hv
  refine (canon_any (fun _ => True) v r w (fun _ _ => trivial) h1 (h2.le (by omega))).mono ?_
  rintro e w1 ⟨z, rfl, hz, hb⟩
  exact ⟨z, rfl, Num.mk hz hg, hb⟩
theorem neg_n (hv : Num c L w v p) (hL : L ≤ 100000) :
    Calls Try.prog 39 #[v] w fun e w' => ∃ z, e = .returned z ∧ Num true (L + 1) w' z (-p) ∧ Below w.heap.size w w' := by
  have hg := hv.good
  obtain ⟨r, h1, h2, rfl, h4⟩ := hv
  refine (neg_any (fun _ => True) v r w (fun _ _ => trivial) h1 (h2.le (by omega))).mono ?_
  rintro e w1 ⟨z, rfl, hz, hb⟩
  exact ⟨z, rfl, Num.mk hz (good_neg hg), hb⟩
theorem abs_n (hv : Num c L w v p) (hL : L ≤ 100000) :
    Calls Try.prog 41 #[v] w fun e w' => ∃ z, e = .returned z ∧ Num true (L + 1) w' z (rabs p) ∧ Below w.heap.size w w' := by
  have hg := hv.good
  obtain ⟨r, h1, h2, rfl, h4⟩ := hv
  refine (abs_any (fun _ => True) v r w (fun _ _ => trivial) h1 (h2.le (by omega))).mono ?_
  rintro e w1 ⟨z, rfl, hz, hb⟩
  exact ⟨z, rfl, Num.mk hz (good_abs hg), hb⟩
theorem add_n (hv : Num c L w v p) (hu : Num d M w u q) (hL : L ≤ 100000) (hM : M ≤ 100000) :
    Calls Try.prog 43 #[v, u] w fun e w' => ∃ z, e = .returned z ∧ Num true (L + 1 + (M + 1) + 1) w' z (p + q) ∧ Below w.heap.size w w' := by
  have hg := hv.good
  have kg := hu.good
  obtain ⟨r, h1, h2, rfl, h4⟩ := hv
  obtain ⟨s, k1, k2, rfl, k4⟩ := hu
  refine (Add_any (fun _ => True) v u r s w (fun _ _ => trivial) h1 k1 (h2.le (by omega)) (k2.le (by omega))).mono ?_
  rintro e w1 ⟨z, rfl, hz, hb⟩
  exact ⟨z, rfl, Num.mk hz (good_add hg kg), hb⟩
theorem sub_n (hv : Num c L w v p) (hu : Num d M w u q) (hL : L ≤ 100000) (hM : M ≤ 100000) :
    Calls Try.prog 45 #[v, u] w fun e w' => ∃ z, e = .returned z ∧ Num true (L + 1 + (M + 1) + 1) w' z (p - q) ∧ Below w.heap.size w w' := by
  have hg := hv.good
  have kg := hu.good
  obtain ⟨r, h1, h2, rfl, h4⟩ := hv
  obtain ⟨s, k1, k2, rfl, k4⟩ := hu
  refine (Sub_any (fun _ => True) v u r s w (fun _ _ => trivial) h1 k1 (h2.le (by omega)) (k2.le (by omega))).mono ?_
  rintro e w1 ⟨z, rfl, hz, hb⟩
  exact ⟨z, rfl, Num.mk hz (good_sub hg kg), hb⟩
theorem mul_n (hv : Num c L w v p) (hu : Num d M w u q) (hL : L ≤ 100000) (hM : M ≤ 100000) :
    Calls Try.prog 21 #[v, u] w fun e w' => ∃ z, e = .returned z ∧ Num true (L + 1 + (M + 1)) w' z (p * q) ∧ Below w.heap.size w w' := by
  have hg := hv.good
  have kg := hu.good
  obtain ⟨r, h1, h2, rfl, h4⟩ := hv
  obtain ⟨s, k1, k2, rfl, k4⟩ := hu
  refine (Mul_any (fun _ => True) v u r s w (fun _ _ => trivial) h1 k1 (h2.le (by omega)) (k2.le (by omega))).mono ?_
  rintro e w1 ⟨z, rfl, hz, hb⟩
  exact ⟨z, rfl, Num.mk hz (good_mul hg kg), hb⟩
theorem div_n (hv : Num c L w v p) (hu : Num d M w u q) (hL : L ≤ 100000) (hM : M ≤ 100000) :
    Calls Try.prog 18 #[v, u] w fun e w' => ∃ z, e = .returned (.tuple #[z, .bool (decide (q ≠ 0))]) ∧ Num true (L + 1 + (M + 1)) w' z (p / q) ∧ Below w.heap.size w w' := by
  have hg := hv.good
  have kg := hu.good
  obtain ⟨r, h1, h2, rfl, h4⟩ := hv
  obtain ⟨s, k1, k2, rfl, k4⟩ := hu
  refine (Div_any (fun _ => True) v u r s w (fun _ _ => trivial) h1 k1 (h2.le (by omega)) (k2.le (by omega))).mono ?_
  rintro e w1 ⟨z, rfl, hz, hb⟩
  exact ⟨z, rfl, Num.mk hz (good_div hg kg (by omega)), hb⟩
theorem sign_n (hv : Num c L w v p) (hL : L ≤ 100000) :
    Calls Try.prog 52 #[v] w fun e w' => e = .returned (.int .i64 (sgnZ p)) ∧ Below w.heap.size w w' := by
  obtain ⟨r, h1, h2, rfl, h4⟩ := hv
  exact sign_any v r w h1 (h2.le (by omega))
theorem cmp_n (hv : Num c L w v p) (hu : Num d M w u q) (hL : L ≤ 100000) (hM : M ≤ 100000) :
    Calls Try.prog 47 #[v, u] w fun e w' => e = .returned (.int .i64 (sgnZ (p - q))) ∧ Below w.heap.size w w' := by
  obtain ⟨r, h1, h2, rfl, h4⟩ := hv
  obtain ⟨s, k1, k2, rfl, k4⟩ := hu
  exact Cmp_any v u r s w h1 k1 (h2.le (by omega)) (k2.le (by omega))
theorem integral_n (hv : Num c L w v p) (hL : L ≤ 100000) :
    Calls Try.prog 50 #[v] w fun e w' => e = .returned (.bool (decide (p.den = 1))) ∧ Below w.heap.size w w' := by
  obtain ⟨r, h1, h2, rfl, h4⟩ := hv
  exact integral_any v r w h1 (h2.le (by omega))
theorem fromInt_n {n : Int} (h1 : -9223372036854775808 ≤ n) (h2 : n ≤ 9223372036854775807) :
    Calls Try.prog 26 #[.int .i64 n] w fun e w' => ∃ z, e = .returned z ∧ Num true 3 w' z (n : Rat) ∧ Below w.heap.size w w' := by
  refine (fromInt_any (fun _ => True) n w (fun _ _ => trivial) h1 h2).mono ?_
  rintro e w1 ⟨z, rfl, hz, hb⟩
  exact ⟨z, rfl, Num.mk hz (int_good n h1 h2 3 (by omega)), hb⟩
theorem rcanon_n (hv : Num c L w v p) (hL : L ≤ 100000) :
    Calls Try.prog 49 #[v] w fun e w' => ∃ z, e = .returned z ∧ Num true (L + 1) w' z (p) ∧ Below w.heap.size w w' := by
  have hg := hv.good
  obtain ⟨r, h1, h2, rfl, h4⟩ := hv
  refine (rcanon_any (fun _ => True) v r w (fun _ _ => trivial) h1 (h2.le (by omega))).mono ?_
  rintro e w1 ⟨z, rfl, hz, hb⟩
  exact ⟨z, rfl, Num.mk hz hg, hb⟩
theorem rneg_n (hv : Num c L w v p) (hL : L ≤ 100000) :
    Calls Try.prog 40 #[v] w fun e w' => ∃ z, e = .returned z ∧ Num true (L + 1) w' z (-p) ∧ Below w.heap.size w w' := by
  have hg := hv.good
  obtain ⟨r, h1, h2, rfl, h4⟩ := hv
  refine (rneg_any (fun _ => True) v r w (fun _ _ => trivial) h1 (h2.le (by omega))).mono ?_
  rintro e w1 ⟨z, rfl, hz, hb⟩
  exact ⟨z, rfl, Num.mk hz (good_neg hg), hb⟩
theorem rabs_n (hv : Num c L w v p) (hL : L ≤ 100000) :
    Calls Try.prog 42 #[v] w fun e w' => ∃ z, e = .returned z ∧ Num true (L + 1) w' z (rabs p) ∧ Below w.heap.size w w' := by
  have hg := hv.good
  obtain ⟨r, h1, h2, rfl, h4⟩ := hv
  refine (rabs_any (fun _ => True) v r w (fun _ _ => trivial) h1 (h2.le (by omega))).mono ?_
  rintro e w1 ⟨z, rfl, hz, hb⟩
  exact ⟨z, rfl, Num.mk hz (good_abs hg), hb⟩
theorem radd_n (hv : Num c L w v p) (hu : Num d M w u q) (hL : L ≤ 100000) (hM : M ≤ 100000) :
    Calls Try.prog 44 #[v, u] w fun e w' => ∃ z, e = .returned z ∧ Num true (L + 1 + (M + 1) + 1) w' z (p + q) ∧ Below w.heap.size w w' := by
  have hg := hv.good
  have kg := hu.good
  obtain ⟨r, h1, h2, rfl, h4⟩ := hv
  obtain ⟨s, k1, k2, rfl, k4⟩ := hu
  refine (rAdd_any (fun _ => True) v u r s w (fun _ _ => trivial) h1 k1 (h2.le (by omega)) (k2.le (by omega))).mono ?_
  rintro e w1 ⟨z, rfl, hz, hb⟩
  exact ⟨z, rfl, Num.mk hz (good_add hg kg), hb⟩
theorem rsub_n (hv : Num c L w v p) (hu : Num d M w u q) (hL : L ≤ 100000) (hM : M ≤ 100000) :
    Calls Try.prog 46 #[v, u] w fun e w' => ∃ z, e = .returned z ∧ Num true (L + 1 + (M + 1) + 1) w' z (p - q) ∧ Below w.heap.size w w' := by
  have hg := hv.good
  have kg := hu.good
  obtain ⟨r, h1, h2, rfl, h4⟩ := hv
  obtain ⟨s, k1, k2, rfl, k4⟩ := hu
  refine (rSub_any (fun _ => True) v u r s w (fun _ _ => trivial) h1 k1 (h2.le (by omega)) (k2.le (by omega))).mono ?_
  rintro e w1 ⟨z, rfl, hz, hb⟩
  exact ⟨z, rfl, Num.mk hz (good_sub hg kg), hb⟩
theorem rmul_n (hv : Num c L w v p) (hu : Num d M w u q) (hL : L ≤ 100000) (hM : M ≤ 100000) :
    Calls Try.prog 22 #[v, u] w fun e w' => ∃ z, e = .returned z ∧ Num true (L + 1 + (M + 1)) w' z (p * q) ∧ Below w.heap.size w w' := by
  have hg := hv.good
  have kg := hu.good
  obtain ⟨r, h1, h2, rfl, h4⟩ := hv
  obtain ⟨s, k1, k2, rfl, k4⟩ := hu
  refine (rMul_any (fun _ => True) v u r s w (fun _ _ => trivial) h1 k1 (h2.le (by omega)) (k2.le (by omega))).mono ?_
  rintro e w1 ⟨z, rfl, hz, hb⟩
  exact ⟨z, rfl, Num.mk hz (good_mul hg kg), hb⟩
theorem rdiv_n (hv : Num c L w v p) (hu : Num d M w u q) (hL : L ≤ 100000) (hM : M ≤ 100000) :
    Calls Try.prog 19 #[v, u] w fun e w' => ∃ z, e = .returned (.tuple #[z, .bool (decide (q ≠ 0))]) ∧ Num true (L + 1 + (M + 1)) w' z (p / q) ∧ Below w.heap.size w w' := by
  have hg := hv.good
  have kg := hu.good
  obtain ⟨r, h1, h2, rfl, h4⟩ := hv
  obtain ⟨s, k1, k2, rfl, k4⟩ := hu
  refine (rDiv_any (fun _ => True) v u r s w (fun _ _ => trivial) h1 k1 (h2.le (by omega)) (k2.le (by omega))).mono ?_
  rintro e w1 ⟨z, rfl, hz, hb⟩
  exact ⟨z, rfl, Num.mk hz (good_div hg kg (by omega)), hb⟩
theorem rsign_n (hv : Num c L w v p) (hL : L ≤ 100000) :
    Calls Try.prog 53 #[v] w fun e w' => e = .returned (.int .i64 (sgnZ p)) ∧ Below w.heap.size w w' := by
  obtain ⟨r, h1, h2, rfl, h4⟩ := hv
  exact rsign_any v r w h1 (h2.le (by omega))
theorem rcmp_n (hv : Num c L w v p) (hu : Num d M w u q) (hL : L ≤ 100000) (hM : M ≤ 100000) :
    Calls Try.prog 54 #[v, u] w fun e w' => e = .returned (.int .i64 (sgnZ (p - q))) ∧ Below w.heap.size w w' := by
  obtain ⟨r, h1, h2, rfl, h4⟩ := hv
  obtain ⟨s, k1, k2, rfl, k4⟩ := hu
  exact rCmp_any v u r s w h1 k1 (h2.le (by omega)) (k2.le (by omega))
theorem rintegral_n (hv : Num c L w v p) (hL : L ≤ 100000) :
    Calls Try.prog 51 #[v] w fun e w' => e = .returned (.bool (decide (p.den = 1))) ∧ Below w.heap.size w w' := by
  obtain ⟨r, h1, h2, rfl, h4⟩ := hv
  exact rintegral_any v r w h1 (h2.le (by omega))
theorem rfromInt_n {n : Int} (h1 : -9223372036854775808 ≤ n) (h2 : n ≤ 9223372036854775807) :
    Calls Try.prog 27 #[.int .i64 n] w fun e w' => ∃ z, e = .returned z ∧ Num true 3 w' z (n : Rat) ∧ Below w.heap.size w w' := by
  refine (rfromInt_any (fun _ => True) n w (fun _ _ => trivial) h1 h2).mono ?_
  rintro e w1 ⟨z, rfl, hz, hb⟩
  exact ⟨z, rfl, Num.mk hz (int_good n h1 h2 3 (by omega)), hb⟩
end
end Go.Proofs.Ytikpdkgamcecjaa
