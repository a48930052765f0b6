/- Walks: keep.SameRat of any two numbers. -/
import Derived.Test.YtikpdkgamcecjaaC2
import Derived.Deep.QuietTactic
import Derived.BigQuiet
namespace Go.Proofs.Ytikpdkgamcecjaa
open Go.RowKit
set_option linter.unusedSimpArgs false
set_option linter.unusedVariables false

theorem list_ext {xs ys : List Int} (hl : xs.length = ys.length) (h : ∀ j, j < xs.length → xs.getD j 0 = ys.getD j 0) : xs = ys := by
  apply List.ext_getElem hl
  intro j h1 h2
  have := h j h1
  rw [List.getD_eq_getElem?_getD, List.getD_eq_getElem?_getD, List.getElem?_eq_getElem h1, List.getElem?_eq_getElem h2] at this
  exact this
set_option maxHeartbeats 2000000 in
theorem sameLimbs_any (v u : Value) (xs ys : List Int) (w : World) (h : Rd .u32 w v xs) (h' : Rd .u32 w u ys) :
    Calls Try.prog 61 #[v, u] w fun e w' => e = .returned (.bool (decide (xs = ys))) ∧ Below w.heap.size w w' := by
  have HX := Lib.hid h
  have HY := Lib.hid h'
  obtain ⟨A, c, rfl, hl, hc⟩ := h
  obtain ⟨A', c', rfl, hl', hc'⟩ := h'
  clear hc hc'
  obtain ⟨b, hb⟩ : ∃ b, b = decide (xs = ys) := ⟨_, rfl⟩
  have HD := Lib.hid hb
  rw [← hb]
  clear hb
  by_cases hlen : xs.length = ys.length
  · have HL := Lib.hid hlen
    have t1 : ((xs.length : Int) != (ys.length : Int)) = false := by simp; omega
    clear hlen
    go_enter Try.func61, Try.ntmps61
    go_wp2
    go_loopw [5, 13] (fun _ i wr => ∃ k : Nat, k ≤ xs.length ∧ i = .int .i64 k ∧ (∀ j, j < k → xs.getD j 0 = ys.getD j 0) ∧ Below w.heap.size w wr) (fun _ i _ => xs.length - (intOf i).toNat)
    case atStart => exact ⟨0, Nat.zero_le _, rfl, fun j h => by omega, Below.refl _ _⟩
    case round =>
      obtain ⟨k, hk, rfl, he, hb⟩ := hrel
      have HB := Lib.hid hb
      have HEP := Lib.hid he
      by_cases hlt : k < xs.length
      · have hlt2 : k < ys.length := by have := HL.out; omega
        obtain ⟨ad, rfl, _, hcell⟩ := HX.out.at_ hlt
        obtain ⟨ad', rfl, _, hcell'⟩ := HY.out.at_ hlt2
        have h1 := (hb.cell (World.block_lt_of_cell? w _ hcell)).trans hcell
        have h2 := (hb.cell (World.block_lt_of_cell? w _ hcell')).trans hcell'
        obtain ⟨x, hx⟩ : ∃ x, x = xs.getD k 0 := ⟨_, rfl⟩
        obtain ⟨y, hy⟩ : ∃ x, x = ys.getD k 0 := ⟨_, rfl⟩
        rw [← hx] at h1
        rw [← hy] at h2
        have HXX := Lib.hid hx
        have HYY := Lib.hid hy
        clear hcell hcell' hx hy hb he
        by_cases hxy : x = y
        · have HXY := Lib.hid hxy
          subst hxy
          go_wp2
          go_quiet (fail)
          all_goals go_wp2
          all_goals first
            | (exfalso; omega)
            | (go_roundw
               case measure => simp [intOf]; omega
               case rel =>
                 refine ⟨k + 1, by omega, by go_num, fun j h1 => ?_, by repeat (first | exact HB.out | refine bl_drewN ?_ _ | refine bl_drew ?_)⟩
                 by_cases e : j = k
                 · rw [e]; exact HXX.out.symm.trans HYY.out
                 · exact HEP.out j (by omega))
        · have HF := Lib.hid (show b = false by
            rw [HD.out, decide_eq_false_iff_not]
            intro e
            exact hxy (by rw [HXX.out, HYY.out, e]))
          go_wp2
          go_quiet (fail)
          all_goals go_wp2
          all_goals first
            | (exfalso; omega)
            | (go_ret; exact ⟨by rw [HF.out]; rfl, by repeat (first | exact HB.out | refine bl_drewN ?_ _ | refine bl_drew ?_)⟩)
      · have HT := Lib.hid (show b = true by
          rw [HD.out, decide_eq_true_eq]
          exact list_ext HL.out (fun j hj => he j (by omega)))
        clear hb
        go_wp2
        go_ret
        exact ⟨by rw [HT.out]; rfl, HB.out⟩
  · have HF := Lib.hid (show b = false by
      rw [HD.out, decide_eq_false_iff_not]
      intro e
      exact hlen (by rw [e]))
    have t1 : ((xs.length : Int) != (ys.length : Int)) = true := by simp; omega
    go_enter Try.func61, Try.ntmps61
    go_wp2
    all_goals first
      | (exfalso; omega)
      | (go_ret; exact ⟨by rw [HF.out]; rfl, Below.refl _ _⟩)
/-- Equal in all fields. -/
def sameB (r s : Raw) : Bool := decide (r.neg = s.neg) && (decide (r.num = s.num) && decide (r.den = s.den))
theorem sameB_iff (r s : Raw) : sameB r s = true ↔ r = s := by
  obtain ⟨a, b, c⟩ := r
  obtain ⟨a', b', c'⟩ := s
  unfold sameB
  simp
set_option maxHeartbeats 4000000 in
theorem sameRat_any (v u : Value) (r s : Raw) (w : World) (h : RdR w v r) (h' : RdR w u s) :
    Calls Try.prog 20 #[v, u] w fun e w' => e = .returned (.bool (sameB r s)) ∧ Below w.heap.size w w' := by
  obtain ⟨b, f, rfl, hb, hf⟩ := h
  obtain ⟨b', f', rfl, hb', hf'⟩ := h'
  have H1 := Lib.hid hb.now
  have H2 := Lib.hid hf.now
  have H3 := Lib.hid hb'.now
  have H4 := Lib.hid hf'.now
  obtain ⟨A1, c1, rfl, _, _⟩ := hb.len
  obtain ⟨A2, c2, rfl, _, _⟩ := hf.len
  obtain ⟨A3, c3, rfl, _, _⟩ := hb'.len
  obtain ⟨A4, c4, rfl, _, _⟩ := hf'.len
  clear hb hf hb' hf'
  obtain ⟨neg, xs, ys⟩ := r
  obtain ⟨neg2, xs2, ys2⟩ := s
  simp only at H1 H2 H3 H4 ⊢
  obtain ⟨k1, hk1⟩ : ∃ k, k = xs.length := ⟨_, rfl⟩
  obtain ⟨k2, hk2⟩ : ∃ k, k = ys.length := ⟨_, rfl⟩
  obtain ⟨k3, hk3⟩ : ∃ k, k = xs2.length := ⟨_, rfl⟩
  obtain ⟨k4, hk4⟩ : ∃ k, k = ys2.length := ⟨_, rfl⟩
  rw [← hk1] at H1 ⊢
  rw [← hk2] at H2 ⊢
  rw [← hk3] at H3 ⊢
  rw [← hk4] at H4 ⊢
  clear hk1 hk2 hk3 hk4
  have HD := Lib.hid (show sameB ⟨neg, xs, ys⟩ ⟨neg2, xs2, ys2⟩ = (decide (neg = neg2) && (decide (xs = xs2) && decide (ys = ys2))) from rfl)
  obtain ⟨R, hR⟩ : ∃ b, b = sameB ⟨neg, xs, ys⟩ ⟨neg2, xs2, ys2⟩ := ⟨_, rfl⟩
  rw [← hR] at HD ⊢
  clear hR
  by_cases hn : neg = neg2
  · subst hn
    have HD1 := Lib.hid (show R = (decide (xs = xs2) && decide (ys = ys2)) by rw [HD.out]; simp)
    have S1 := Lib.hid (fun W h h' => sameLimbs_any (.slice A1 k1 c1) (.slice A3 k3 c3) xs xs2 W h h')
    have S2 := Lib.hid (fun W h h' => sameLimbs_any (.slice A2 k2 c2) (.slice A4 k4 c4) ys ys2 W h h')
    obtain ⟨bx, hbx⟩ : ∃ b, b = decide (xs = xs2) := ⟨_, rfl⟩
    obtain ⟨by', hby⟩ : ∃ b, b = decide (ys = ys2) := ⟨_, rfl⟩
    rw [← hbx] at S1 HD1
    rw [← hby] at S2 HD1
    clear hbx hby HD
    go_enter Try.func20, Try.ntmps20
    go_wp2_with fail
    have HA := Lib.hid (show Below w.heap.size w ((w.alloc (.cells #[.bool neg, .slice A1 k1 c1, .slice A2 k2 c2] 24)).alloc (.cells #[.bool neg, .slice A3 k3 c3, .slice A4 k4 c4] 24)) from bl_alloc (bl_alloc (Below.refl _ _) _) _)
    refine (S1.out _ (H1.out.below HA.out) (H3.out.below HA.out)).mono ?_
    rintro e w1 ⟨rfl, hb1⟩
    have HB1 := Lib.hid (bl_call HA.out hb1)
    obtain ⟨hc1, hf1⟩ := bcell hb1
    have z1 := hb1.size
    simp at z1
    have z2 : w.heap.size < w1.heap.size := by omega
    have z3 : w.heap.size + 1 < w1.heap.size := by omega
    cases bx
    · go_wp2_with fail
      go_ret
      exact ⟨by rw [HD1.out]; rfl, HB1.out⟩
    · go_wp2_with fail
      refine (S2.out _ (H2.out.below HB1.out) (H4.out.below HB1.out)).mono ?_
      rintro e w2 ⟨rfl, hb2⟩
      go_wp2_with fail
      go_ret
      exact ⟨by rw [HD1.out]; rfl, bl_call HB1.out hb2⟩
  · have HD1 := Lib.hid (show R = false by rw [HD.out]; simp [hn])
    have t1 : (neg == neg2) = false := by simpa using hn
    clear HD
    go_enter Try.func20, Try.ntmps20
    go_wp2_with fail
    go_ret
    exact ⟨by rw [HD1.out]; rfl, bl_alloc (bl_alloc (Below.refl _ _) _) _⟩
theorem raw_inj {p q : Rat} (h : raw p = raw q) : p = q := by rw [← qv_raw p, ← qv_raw q, h]
theorem same_dec {L M : Nat} {w : World} {v u : Value} {p q : Rat} (hv : Num true L w v p) (hu : Num true M w u q) :
    Calls Try.prog 20 #[v, u] w fun e w' => e = .returned (.bool (decide (p = q))) ∧ Below w.heap.size w w' := by
  obtain ⟨r, h1, h2, h3, h4⟩ := hv
  obtain ⟨s, k1, k2, k3, k4⟩ := hu
  rw [h4 rfl] at h1
  rw [k4 rfl] at k1
  have e : sameB (raw p) (raw q) = decide (p = q) := by
    by_cases h : p = q
    · subst h; simp [(sameB_iff _ _).2 rfl]
    · have : ¬ sameB (raw p) (raw q) = true := fun h1 => h (raw_inj ((sameB_iff _ _).1 h1))
      simp [h, this]
  have := sameRat_any v u _ _ w h1 k1
  rwa [e] at this
end Go.Proofs.Ytikpdkgamcecjaa
