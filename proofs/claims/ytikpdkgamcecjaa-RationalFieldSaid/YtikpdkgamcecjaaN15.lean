/- Walks of the reference: Div. -/
import Derived.Test.YtikpdkgamcecjaaN14
import Derived.Deep.DeepCutAuto
import Derived.Deep.CutBlock
import Derived.Deep.Light
namespace Go.Proofs.Ytikpdkgamcecjaa
open Go.RowKit
set_option linter.unusedSimpArgs false
set_option linter.unusedVariables false

set_option maxRecDepth 100000 in
set_option maxHeartbeats 4000000 in
theorem rDiv_any (ok : Nat → Prop) (v u : Value) (r s : Raw) (w : World) (hok : ∀ b, w.heap.size ≤ b → ok b) (hr : RdR w v r) (hs : RdR w u s) (gr : Good 400000 r) (gs : Good 400000 s) :
    Calls Try.prog 19 #[v, u] w fun e w' => ∃ z, e = .returned (.tuple #[z, .bool (decide (qv s ≠ 0))]) ∧ RdRaw w' ok z (raw (qv r / qv s)) ∧ Below w.heap.size w w' := by
  have HOK := Lib.hid hok
  clear hok
  have HR := Lib.hid hr
  have HS := Lib.hid hs
  obtain ⟨n1, d1, rfl, hn1, hd1⟩ := hr
  obtain ⟨n2, d2, rfl, hn2, hd2⟩ := hs
  obtain ⟨A1, c1, rfl, _, _⟩ := hn1.len
  obtain ⟨A2, c2, rfl, _, _⟩ := hd1.len
  obtain ⟨A3, c3, rfl, _, _⟩ := hn2.len
  obtain ⟨A4, c4, rfl, _, _⟩ := hd2.len
  clear hn1 hd1 hn2 hd2
  go_enter Try.func19, Try.ntmps19
  go_upto_region 1 with (fail)
  obtain ⟨W, hW⟩ : ∃ W, W = ((w.alloc (.cells #[.bool r.neg, .slice A1 r.num.length c1, .slice A2 r.den.length c2] 24)).alloc (.cells #[.bool s.neg, .slice A3 s.num.length c3, .slice A4 s.den.length c4] 24)).alloc (.cells #[.bool false, .slice none 0 0, .slice none 0 0] 24) := ⟨_, rfl⟩
  have b1 : W.heap[w.heap.size]? = some (.cells #[.bool r.neg, .slice A1 r.num.length c1, .slice A2 r.den.length c2] 24 (0, 0)) := by rw [hW]; exact blk_alloc (blk_alloc (blk_new _ _) _) _
  have b2 : W.heap[w.heap.size + 1]? = some (.cells #[.bool s.neg, .slice A3 s.num.length c3, .slice A4 s.den.length c4] 24 (0, 0)) := by rw [hW]; exact blk_alloc (blk_new' (by simp) _) _
  have b3 : W.heap[w.heap.size + 1 + 1]? = some (.cells #[.bool false, .slice none 0 0, .slice none 0 0] 24 (0, 0)) := by rw [hW]; exact blk_new' (by simp) _
  have B3 := Lib.hid b3
  have hbw : Below w.heap.size w W := by rw [hW]; exact bl_alloc (bl_alloc (bl_alloc (Below.refl _ _) _) _) _
  have hsz : W.heap.size = w.heap.size + 1 + 1 + 1 := by rw [hW]; simp
  rw [← hW]
  have HBW := Lib.hid hbw
  have HSZ := Lib.hid hsz
  have RR := Lib.hid (fun (W2 : World) (h : Below W.heap.size W W2) => HR.out.below (bl_call hbw h))
  have SS := Lib.hid (fun (W2 : World) (h : Below W.heap.size W W2) => HS.out.below (bl_call hbw h))
  have HK := Lib.hid (show ∀ w', Below W.heap.size W w' → (w'.cell? ⟨w.heap.size, 0, none⟩ = some (.bool r.neg) ∧ w'.cell? ⟨w.heap.size, 1, none⟩ = some (.slice A1 r.num.length c1) ∧ w'.cell? ⟨w.heap.size, 2, none⟩ = some (.slice A2 r.den.length c2) ∧ w'.cell? ⟨w.heap.size + 1, 0, none⟩ = some (.bool s.neg) ∧ w'.cell? ⟨w.heap.size + 1, 1, none⟩ = some (.slice A3 s.num.length c3) ∧ w'.cell? ⟨w.heap.size + 1, 2, none⟩ = some (.slice A4 s.den.length c4)) from fun w' hb =>
    ⟨blk_cell (blk_below b1 hb) 0, blk_cell (blk_below b1 hb) 1, blk_cell (blk_below b1 hb) 2, blk_cell (blk_below b2 hb) 0, blk_cell (blk_below b2 hb) 1, blk_cell (blk_below b2 hb) 2⟩)
  have HF := Lib.hid (show ∀ w', Below W.heap.size W w' → (∀ i, w'.frozen? ⟨w.heap.size, i, none⟩ = false) ∧ (∀ i, w'.frozen? ⟨w.heap.size + 1, i, none⟩ = false) from fun w' hb =>
    ⟨blk_frozen (blk_below b1 hb), blk_frozen (blk_below b2 hb)⟩)
  have KS := Lib.hid (show ∀ w', Below W.heap.size W w' → ∀ b, w'.heap.size ≤ b → W.heap.size ≤ b from fun w' hb b h => Nat.le_trans hb.size h)
  have KZ := Lib.hid (show ∀ w', Below W.heap.size W w' → w.heap.size < w'.heap.size ∧ w.heap.size + 1 < w'.heap.size from fun w' hb => by have := hb.size; omega)
  have HB1 := Lib.hid b1
  have HB2 := Lib.hid b2
  obtain ⟨y0, y1, y2, y3, y4, y5⟩ := HK.out W (Below.refl _ _)
  obtain ⟨x0, x1⟩ := HF.out W (Below.refl _ _)
  have E01 : w.heap.size ≠ w.heap.size + 1 := by omega
  have E10 : w.heap.size + 1 ≠ w.heap.size := by omega
  have E20 : w.heap.size + 1 + 1 ≠ w.heap.size := by omega
  have E21 : w.heap.size + 1 + 1 ≠ w.heap.size + 1 := by omega
  have NB0 : ¬ W.heap.size ≤ w.heap.size := by omega
  have NB1 : ¬ W.heap.size ≤ w.heap.size + 1 := by omega
  clear hW b1 b2 b3 hbw hsz
  go_cut [] (fun wc => Var wc w.heap.size (qv r) ∧ Var wc (w.heap.size + 1) (qv s) ∧ wc.heap[w.heap.size + 1 + 1]? = some (.cells #[.bool false, .slice none 0 0, .slice none 0 0] 24 (0, 0)) ∧ Below w.heap.size w wc)
  case first =>
    go_region_with
      (first
        | (go_at_call_of 49 (Value.bool r.neg); refine (rcanon_any (fun b => W.heap.size ≤ b) _ r _ ?_ ?_ (gr.le (by omega))).mono ?_; (refine KS.out _ ?_; repeat (first | (with_reducible exact Below.refl _ _) | (with_reducible refine bl_alloc ?_ _) | (with_reducible refine bl_drew ?_) | (focus ((with_reducible refine bl_set ?_ ?_ _); rotate_left; (first | with_reducible exact Nat.le_refl _ | with_reducible assumption | (with_reducible refine Nat.le_succ_of_le ?_; (first | with_reducible exact Nat.le_refl _ | with_reducible assumption))))) | (focus ((with_reducible apply bl_call'); with_reducible assumption)))); (refine RR.out _ ?_; repeat (first | (with_reducible exact Below.refl _ _) | (with_reducible refine bl_alloc ?_ _) | (with_reducible refine bl_drew ?_) | (focus ((with_reducible refine bl_set ?_ ?_ _); rotate_left; (first | with_reducible exact Nat.le_refl _ | with_reducible assumption | (with_reducible refine Nat.le_succ_of_le ?_; (first | with_reducible exact Nat.le_refl _ | with_reducible assumption))))) | (focus ((with_reducible apply bl_call'); with_reducible assumption)))); rintro e w1 ⟨z1, rfl, ⟨n5, d5, rfl, hn5, hd5⟩, hb1⟩; obtain ⟨A5, c5, rfl, _, _⟩ := hn5.len; obtain ⟨A6, c6, rfl, _, _⟩ := hd5.len; have HN5 := Lib.hid hn5; have HD5 := Lib.hid hd5; clear hn5 hd5; have bhb1 : Below W.heap.size W w1 := (by repeat (first | (with_reducible exact Below.refl _ _) | (with_reducible refine bl_alloc ?_ _) | (with_reducible refine bl_drew ?_) | (focus ((with_reducible refine bl_set ?_ ?_ _); rotate_left; (first | with_reducible exact Nat.le_refl _ | with_reducible assumption | (with_reducible refine Nat.le_succ_of_le ?_; (first | with_reducible exact Nat.le_refl _ | with_reducible assumption))))) | (focus ((with_reducible apply bl_call'); with_reducible assumption)))); obtain ⟨y0hb1, y1hb1, y2hb1, y3hb1, y4hb1, y5hb1⟩ := HK.out w1 bhb1; obtain ⟨x0hb1, x1hb1⟩ := HF.out w1 bhb1; have Pahb1 := Lib.hid (blk_below HB1.out bhb1); have Pbhb1 := Lib.hid (blk_below HB2.out bhb1); have Pchb1 := Lib.hid (blk_below B3.out bhb1); have Pdhb1 := Lib.hid (bl_call HBW.out bhb1); have Zhb1 := KZ.out w1 bhb1; clear bhb1)
        | (go_at_call 49; refine (rcanon_any (fun b => W.heap.size ≤ b) _ s _ ?_ ?_ (gs.le (by omega))).mono ?_; (refine KS.out _ ?_; repeat (first | (with_reducible exact Below.refl _ _) | (with_reducible refine bl_alloc ?_ _) | (with_reducible refine bl_drew ?_) | (focus ((with_reducible refine bl_set ?_ ?_ _); rotate_left; (first | with_reducible exact Nat.le_refl _ | with_reducible assumption | (with_reducible refine Nat.le_succ_of_le ?_; (first | with_reducible exact Nat.le_refl _ | with_reducible assumption))))) | (focus ((with_reducible apply bl_call'); with_reducible assumption)))); (refine SS.out _ ?_; repeat (first | (with_reducible exact Below.refl _ _) | (with_reducible refine bl_alloc ?_ _) | (with_reducible refine bl_drew ?_) | (focus ((with_reducible refine bl_set ?_ ?_ _); rotate_left; (first | with_reducible exact Nat.le_refl _ | with_reducible assumption | (with_reducible refine Nat.le_succ_of_le ?_; (first | with_reducible exact Nat.le_refl _ | with_reducible assumption))))) | (focus ((with_reducible apply bl_call'); with_reducible assumption)))); rintro e w2 ⟨z2, rfl, ⟨n6, d6, rfl, hn6, hd6⟩, hb2⟩; obtain ⟨A7, c7, rfl, _, _⟩ := hn6.len; obtain ⟨A8, c8, rfl, _, _⟩ := hd6.len; have HN6 := Lib.hid hn6; have HD6 := Lib.hid hd6; clear hn6 hd6; have bhb2 : Below W.heap.size W w2 := (by repeat (first | (with_reducible exact Below.refl _ _) | (with_reducible refine bl_alloc ?_ _) | (with_reducible refine bl_drew ?_) | (focus ((with_reducible refine bl_set ?_ ?_ _); rotate_left; (first | with_reducible exact Nat.le_refl _ | with_reducible assumption | (with_reducible refine Nat.le_succ_of_le ?_; (first | with_reducible exact Nat.le_refl _ | with_reducible assumption))))) | (focus ((with_reducible apply bl_call'); with_reducible assumption)))); obtain ⟨y0hb2, y1hb2, y2hb2, y3hb2, y4hb2, y5hb2⟩ := HK.out w2 bhb2; obtain ⟨x0hb2, x1hb2⟩ := HF.out w2 bhb2; have Pahb2 := Lib.hid (blk_below HB1.out bhb2); have Pbhb2 := Lib.hid (blk_below HB2.out bhb2); have Pchb2 := Lib.hid (blk_below B3.out bhb2); have Pdhb2 := Lib.hid (bl_call HBW.out bhb2); have Zhb2 := KZ.out w2 bhb2; clear bhb2))
    all_goals (go_wp2; go_meet)
    all_goals (go_light; refine ⟨?_, ?_, ?_, ?_⟩)
    all_goals first
      | (apply Var.mk
         · repeat (first
          | (with_reducible exact Pahb2.out) | (with_reducible exact Pahb1.out) | (with_reducible exact Pbhb2.out) | (with_reducible exact Pbhb1.out) | (with_reducible exact Pchb2.out) | (with_reducible exact Pchb1.out)
          | (with_reducible apply blk_set3)
          | (focus ((with_reducible refine blk_far ?_ ?_ _); rotate_left; (focus (dsimp only; (first | (with_reducible exact E01) | (with_reducible exact E10) | (with_reducible exact E20) | (with_reducible exact E21)))))))
         · first
             | (focus ((refine rdf_as HN5.out ?_; intro h8; repeat (first
          | (with_reducible exact h8)
          | (focus ((with_reducible refine Rdf.set ?_ ?_ _); rotate_left; (focus (dsimp only; (first | (with_reducible exact NB0) | (with_reducible exact NB1))))))
          | (focus ((with_reducible apply Rdf.below); rotate_left; with_reducible assumption)))); done))
             | (focus ((refine rdf_as HN6.out ?_; intro h8; repeat (first
          | (with_reducible exact h8)
          | (focus ((with_reducible refine Rdf.set ?_ ?_ _); rotate_left; (focus (dsimp only; (first | (with_reducible exact NB0) | (with_reducible exact NB1))))))
          | (focus ((with_reducible apply Rdf.below); rotate_left; with_reducible assumption)))); done))
         · first
             | (focus ((refine rdf_as HD5.out ?_; intro h8; repeat (first
          | (with_reducible exact h8)
          | (focus ((with_reducible refine Rdf.set ?_ ?_ _); rotate_left; (focus (dsimp only; (first | (with_reducible exact NB0) | (with_reducible exact NB1))))))
          | (focus ((with_reducible apply Rdf.below); rotate_left; with_reducible assumption)))); done))
             | (focus ((refine rdf_as HD6.out ?_; intro h8; repeat (first
          | (with_reducible exact h8)
          | (focus ((with_reducible refine Rdf.set ?_ ?_ _); rotate_left; (focus (dsimp only; (first | (with_reducible exact NB0) | (with_reducible exact NB1))))))
          | (focus ((with_reducible apply Rdf.below); rotate_left; with_reducible assumption)))); done)))
      | (focus ((repeat (first
          | (with_reducible exact Pahb2.out) | (with_reducible exact Pahb1.out) | (with_reducible exact Pbhb2.out) | (with_reducible exact Pbhb1.out) | (with_reducible exact Pchb2.out) | (with_reducible exact Pchb1.out)
          | (with_reducible apply blk_set3)
          | (focus ((with_reducible refine blk_far ?_ ?_ _); rotate_left; (focus (dsimp only; (first | (with_reducible exact E01) | (with_reducible exact E10) | (with_reducible exact E20) | (with_reducible exact E21)))))))); done))
      | (focus ((repeat (first | (with_reducible exact Pdhb2.out) | (with_reducible exact Pdhb1.out) | (focus ((with_reducible refine bl_set ?_ ?_ _); rotate_left; (first | with_reducible exact Nat.le_refl _ | (with_reducible exact Nat.le_succ _)))))); done))
      | fail
  case rest =>
    obtain ⟨⟨n5, d5, e5, hn5, hd5⟩, ⟨n6, d6, e6, hn6, hd6⟩, b3, hbc⟩ := hcut
    have HBC := Lib.hid hbc
    clear HK HF KS KZ RR SS HB1 HB2 HBW B3 HR HS x0 x1 y0 y1 y2 y3 y4 y5 E01 E10 E20 E21 NB0 NB1
    obtain ⟨l1, l2⟩ := raw_len gr
    obtain ⟨l3, l4⟩ := raw_len gs
    obtain ⟨X, hX⟩ : ∃ X, X = qv r := ⟨_, rfl⟩
    obtain ⟨Y, hY⟩ : ∃ X, X = qv s := ⟨_, rfl⟩
    rw [← hX] at e5 hn5 hd5 l1 l2
    rw [← hY] at e6 hn6 hd6 l3 l4
    have Q1 := Lib.hid (show (limbs X.num.natAbs).length ≤ 400001 from l1)
    have Q2 := Lib.hid (show (limbs X.den).length ≤ 400001 from l2)
    have Q3 := Lib.hid (show (limbs Y.num.natAbs).length ≤ 400001 from l3)
    have Q4 := Lib.hid (show (limbs Y.den).length ≤ 400001 from l4)
    by_cases hY0 : Y.num = 0
    · have HE := Lib.hid (show qv r / qv s = 0 from by rw [← hX, ← hY]; exact rat_div_zero X Y hY0)
      have HD0 := Lib.hid (show decide (qv s ≠ 0) = false from by rw [← hY]; simp [Rat.num_eq_zero.1 hY0])
      have hk7 : (raw Y).num.length = 0 := by show (limbs Y.num.natAbs).length = 0; rw [hY0]; simp [limbs_zero]
      obtain ⟨A7, c7, rfl, _, _⟩ := hn6
      obtain ⟨A8, c8, rfl, _, _⟩ := hd6
      rw [hk7] at e6
      have p0 := blk_cell e6 0
      have p1 := blk_cell e6 1
      simp at p0 p1
      have HB3 := Lib.hid b3
      have hsz : w.heap.size + 1 + 1 < wc.heap.size := blk_lt b3
      clear hbc b3 e5 e6 HSZ gr gs
      go_wp2_with fail
      refine (rfromInt_any (fun x => ok x ∧ x ≠ w.heap.size + 1 + 1) 0 _ (fun b hb => ⟨HOK.out b (by have h7 := HBC.out.size; omega), by omega⟩) (by omega) (by omega)).mono ?_
      rw [Rat.intCast_zero]
      rintro e v3 ⟨r3, rfl, ⟨n3, d3, rfl, hn3, hd3⟩, hv3⟩
      have HN3 := Lib.hid hn3
      have HD3 := Lib.hid hd3
      have HBV := Lib.hid hv3
      have m0 := blk_cell (blk_below HB3.out HBV.out) 0
      have m1 := blk_cell (blk_below HB3.out HBV.out) 1
      have m2 := blk_cell (blk_below HB3.out HBV.out) 2
      have mf := blk_frozen (blk_below HB3.out HBV.out)
      simp at m0 m1 m2
      obtain ⟨A11, c11, rfl, l7, l8⟩ := hn3.len
      obtain ⟨A12, c12, rfl, l9, l10⟩ := hd3.len
      clear hn3 hd3 hv3
      go_wp2_with fail
      refine bodyPost_ret (v := .tuple #[.agg #[.bool (raw 0).neg, .slice A11 (raw 0).num.length c11, .slice A12 (raw 0).den.length c12], .bool false]) (by simp [results, Try.results19, go_sem, m0, m1, m2]) rfl ⟨_, by rw [HD0.out], ?_, ?_⟩
      · rw [HE.out]
        refine ⟨_, _, rfl, ?_, ?_⟩
        · exact (((HN3.out.set (fun h => h.2 rfl) _).set (fun h => h.2 rfl) _).set (fun h => h.2 rfl) _).mono (fun b _ h => h.1)
        · exact (((HD3.out.set (fun h => h.2 rfl) _).set (fun h => h.2 rfl) _).set (fun h => h.2 rfl) _).mono (fun b _ h => h.1)
      · exact bl_set (bl_set (bl_set (bl_call HBC.out HBV.out) (by simp <;> omega) _) (by simp <;> omega) _) (by simp <;> omega) _
    · have HD0 := Lib.hid (show decide (qv s ≠ 0) = true from by rw [← hY]; simp; exact fun e => hY0 (by rw [e]; rfl))
      obtain ⟨nx, hnx⟩ : ∃ n, n = (raw X).neg := ⟨_, rfl⟩
      obtain ⟨ny, hny⟩ : ∃ n, n = (raw Y).neg := ⟨_, rfl⟩
      rw [← hnx] at e5
      rw [← hny] at e6
      have HE := Lib.hid (show mkRat (sg (nx != ny) (X.num.natAbs * Y.den)) (X.den * Y.num.natAbs) = qv r / qv s by rw [hnx, hny, ← hX, ← hY]; exact rat_div X Y hY0)
      have P1 := Lib.hid hn5
      have P2 := Lib.hid hd5
      have P3 := Lib.hid hn6
      have P4 := Lib.hid hd6
      obtain ⟨A5, c5, rfl, _, _⟩ := hn5
      obtain ⟨A6, c6, rfl, _, _⟩ := hd5
      obtain ⟨A7, c7, rfl, _, _⟩ := hn6
      obtain ⟨A8, c8, rfl, _, _⟩ := hd6
      obtain ⟨k5, hk5⟩ : ∃ k, k = (raw X).num.length := ⟨_, rfl⟩
      obtain ⟨k6, hk6⟩ : ∃ k, k = (raw X).den.length := ⟨_, rfl⟩
      obtain ⟨k7, hk7⟩ : ∃ k, k = (raw Y).num.length := ⟨_, rfl⟩
      obtain ⟨k8, hk8⟩ : ∃ k, k = (raw Y).den.length := ⟨_, rfl⟩
      rw [← hk5] at P1 e5
      rw [← hk6] at P2 e5
      rw [← hk7] at P3 e6
      rw [← hk8] at P4 e6
      have t1 : ((k7 : Int) == 0) = false := by
        have h9 : (limbs Y.num.natAbs) ≠ [] := fun e => hY0 (by have := limbs_eq_nil.1 e; omega)
        have h8 : k7 ≠ 0 := by rw [hk7]; exact fun e => h9 (List.eq_nil_of_length_eq_zero e)
        simp; omega
      have HYN := Lib.hid hY0
      clear hk5 hk6 hk7 hk8 hX hY hnx hny
      have HB3 := Lib.hid b3
      have HE5 := Lib.hid e5
      have HE6 := Lib.hid e6
      have hsz : w.heap.size + 1 + 1 < wc.heap.size := blk_lt b3
      have M1 := Lib.hid (fun (W2 : World) (hb : Below wc.heap.size wc W2) => rmul_nat (fun _ => True) (.slice A5 k5 c5) (.slice A8 k8 c8) X.num.natAbs Y.den W2 (fun _ _ => trivial) (P1.out.below hb) (P4.out.below hb) (by have := Q1.out; omega) (by have := Q4.out; omega))
      have M2 := Lib.hid (fun (W2 : World) (hb : Below wc.heap.size wc W2) => rmul_nat (fun _ => True) (.slice A6 k6 c6) (.slice A7 k7 c7) X.den Y.num.natAbs W2 (fun _ _ => trivial) (P2.out.below hb) (P3.out.below hb) (by have := Q2.out; omega) (by have := Q3.out; omega))
      have ML := Lib.hid (show (limbs (X.num.natAbs * Y.den)).length ≤ 1000000 ∧ (limbs (X.den * Y.num.natAbs)).length ≤ 1000000 ∧ X.den * Y.num.natAbs ≠ 0 from ⟨by have := limbs_len_mul X.num.natAbs Y.den; have := Q1.out; have := Q4.out; omega, by have := limbs_len_mul X.den Y.num.natAbs; have := Q2.out; have := Q3.out; omega, Nat.mul_ne_zero X.den_nz (by omega)⟩)
      have HK2 := Lib.hid (show ∀ w', Below wc.heap.size wc w' → (w'.cell? ⟨w.heap.size, 0, none⟩ = some (.bool nx) ∧ w'.cell? ⟨w.heap.size, 1, none⟩ = some (.slice A5 k5 c5) ∧ w'.cell? ⟨w.heap.size, 2, none⟩ = some (.slice A6 k6 c6) ∧ w'.cell? ⟨w.heap.size + 1, 0, none⟩ = some (.bool ny) ∧ w'.cell? ⟨w.heap.size + 1, 1, none⟩ = some (.slice A7 k7 c7) ∧ w'.cell? ⟨w.heap.size + 1, 2, none⟩ = some (.slice A8 k8 c8)) from fun w' hb =>
        ⟨blk_cell (blk_below HE5.out hb) 0, blk_cell (blk_below HE5.out hb) 1, blk_cell (blk_below HE5.out hb) 2, blk_cell (blk_below HE6.out hb) 0, blk_cell (blk_below HE6.out hb) 1, blk_cell (blk_below HE6.out hb) 2⟩)
      have d5 : w.heap.size ≠ w.heap.size + 1 + 1 := by omega
      have d6 : w.heap.size + 1 ≠ w.heap.size + 1 + 1 := by omega
      have HK3 := Lib.hid (show ∀ w', Below wc.heap.size wc w' → ∀ a b c : Value, (((((w'.setCell ⟨w.heap.size + 1 + 1, 0, none⟩ a).setCell ⟨w.heap.size + 1 + 1, 1, none⟩ b).setCell ⟨w.heap.size + 1 + 1, 2, none⟩ c).cell? ⟨w.heap.size, 0, none⟩ = some (.bool nx)) ∧ ((((w'.setCell ⟨w.heap.size + 1 + 1, 0, none⟩ a).setCell ⟨w.heap.size + 1 + 1, 1, none⟩ b).setCell ⟨w.heap.size + 1 + 1, 2, none⟩ c).cell? ⟨w.heap.size, 1, none⟩ = some (.slice A5 k5 c5)) ∧ ((((w'.setCell ⟨w.heap.size + 1 + 1, 0, none⟩ a).setCell ⟨w.heap.size + 1 + 1, 1, none⟩ b).setCell ⟨w.heap.size + 1 + 1, 2, none⟩ c).cell? ⟨w.heap.size, 2, none⟩ = some (.slice A6 k6 c6)) ∧ ((((w'.setCell ⟨w.heap.size + 1 + 1, 0, none⟩ a).setCell ⟨w.heap.size + 1 + 1, 1, none⟩ b).setCell ⟨w.heap.size + 1 + 1, 2, none⟩ c).cell? ⟨w.heap.size + 1, 0, none⟩ = some (.bool ny)) ∧ ((((w'.setCell ⟨w.heap.size + 1 + 1, 0, none⟩ a).setCell ⟨w.heap.size + 1 + 1, 1, none⟩ b).setCell ⟨w.heap.size + 1 + 1, 2, none⟩ c).cell? ⟨w.heap.size + 1, 1, none⟩ = some (.slice A7 k7 c7)) ∧ ((((w'.setCell ⟨w.heap.size + 1 + 1, 0, none⟩ a).setCell ⟨w.heap.size + 1 + 1, 1, none⟩ b).setCell ⟨w.heap.size + 1 + 1, 2, none⟩ c).cell? ⟨w.heap.size + 1, 2, none⟩ = some (.slice A8 k8 c8))) from fun w' hb a b c =>
        ⟨blk_cell (blk_far (blk_far (blk_far (blk_below HE5.out hb) d5 _) d5 _) d5 _) 0, blk_cell (blk_far (blk_far (blk_far (blk_below HE5.out hb) d5 _) d5 _) d5 _) 1, blk_cell (blk_far (blk_far (blk_far (blk_below HE5.out hb) d5 _) d5 _) d5 _) 2, blk_cell (blk_far (blk_far (blk_far (blk_below HE6.out hb) d6 _) d6 _) d6 _) 0, blk_cell (blk_far (blk_far (blk_far (blk_below HE6.out hb) d6 _) d6 _) d6 _) 1, blk_cell (blk_far (blk_far (blk_far (blk_below HE6.out hb) d6 _) d6 _) d6 _) 2⟩)
      have p1 := blk_cell e6 1
      simp at p1
      clear hbc b3 d5 d6 e5 e6 l1 l2 l3 l4 HSZ gr gs
      go_upto_region 4 with (fail)
      go_region_held3 (fun w' => w'.cell? ⟨w.heap.size, 0, none⟩ = some (.bool nx) ∧ w'.cell? ⟨w.heap.size, 1, none⟩ = some (.slice A5 k5 c5) ∧ w'.cell? ⟨w.heap.size, 2, none⟩ = some (.slice A6 k6 c6) ∧ w'.cell? ⟨w.heap.size + 1, 0, none⟩ = some (.bool ny) ∧ w'.cell? ⟨w.heap.size + 1, 1, none⟩ = some (.slice A7 k7 c7) ∧ w'.cell? ⟨w.heap.size + 1, 2, none⟩ = some (.slice A8 k8 c8))
        (first
          | (focus (refine HK2.out _ ?_; (repeat (first | (with_reducible exact Below.refl _ _) | (with_reducible refine bl_alloc ?_ _) | (with_reducible refine bl_drew ?_) | (focus ((with_reducible refine bl_set ?_ ?_ _); rotate_left; (first | with_reducible exact Nat.le_refl _ | with_reducible assumption | (with_reducible refine Nat.le_succ_of_le ?_; (first | with_reducible exact Nat.le_refl _ | with_reducible assumption))))) | (focus ((with_reducible apply bl_call'); with_reducible assumption)))); done))
          | (focus (refine HK3.out _ ?_ _ _ _; (repeat (first | (with_reducible exact Below.refl _ _) | (with_reducible refine bl_alloc ?_ _) | (with_reducible refine bl_drew ?_) | (focus ((with_reducible refine bl_set ?_ ?_ _); rotate_left; (first | with_reducible exact Nat.le_refl _ | with_reducible assumption | (with_reducible refine Nat.le_succ_of_le ?_; (first | with_reducible exact Nat.le_refl _ | with_reducible assumption))))) | (focus ((with_reducible apply bl_call'); with_reducible assumption)))); done))
          | go_keep)
        (first
          | (go_at_call_of 60 (Value.slice A5 k5 c5); refine (M1.out _ ?_).mono ?_; (repeat (first | (with_reducible exact Below.refl _ _) | (with_reducible refine bl_alloc ?_ _) | (with_reducible refine bl_drew ?_) | (focus ((with_reducible refine bl_set ?_ ?_ _); rotate_left; (first | with_reducible exact Nat.le_refl _ | with_reducible assumption | (with_reducible refine Nat.le_succ_of_le ?_; (first | with_reducible exact Nat.le_refl _ | with_reducible assumption))))) | (focus ((with_reducible apply bl_call'); with_reducible assumption)))); rintro e v1 ⟨r1, rfl, hr1, hv1⟩; have HR1 := Lib.hid hr1; obtain ⟨A9, c9, rfl, _, _⟩ := hr1.len; clear hr1)
          | (go_at_call_of 60 (Value.slice A6 k6 c6); refine (M2.out _ ?_).mono ?_; (repeat (first | (with_reducible exact Below.refl _ _) | (with_reducible refine bl_alloc ?_ _) | (with_reducible refine bl_drew ?_) | (focus ((with_reducible refine bl_set ?_ ?_ _); rotate_left; (first | with_reducible exact Nat.le_refl _ | with_reducible assumption | (with_reducible refine Nat.le_succ_of_le ?_; (first | with_reducible exact Nat.le_refl _ | with_reducible assumption))))) | (focus ((with_reducible apply bl_call'); with_reducible assumption)))); rintro e v2 ⟨r2, rfl, hr2, hv2⟩; have HR2 := Lib.hid hr2; obtain ⟨A10, c10, rfl, _, _⟩ := hr2.len; clear hr2)
          | (go_at_call 59; refine (build_nat (fun x => ok x ∧ x ≠ w.heap.size + 1 + 1) (nx != ny) _ _ (X.num.natAbs * Y.den) (X.den * Y.num.natAbs) _ ?_ (HR1.out.below hv2).now HR2.out.now ML.out.1 ML.out.2.1).mono ?_; (exact fun b hb => ⟨HOK.out b (by have := HBC.out.size; have := hv1.size; have := hv2.size; simp at *; omega), by have := HBC.out.size; have := hv1.size; have := hv2.size; simp at *; omega⟩); rw [HE.out]; rintro e v3 ⟨r3, rfl, ⟨n3, d3, rfl, hn3, hd3⟩, hv3⟩; have HN3 := Lib.hid hn3; have HD3 := Lib.hid hd3; have HBV := Lib.hid (show Below wc.heap.size wc v3 from by repeat (first | (with_reducible exact Below.refl _ _) | (with_reducible refine bl_alloc ?_ _) | (with_reducible refine bl_drew ?_) | (focus ((with_reducible refine bl_set ?_ ?_ _); rotate_left; (first | with_reducible exact Nat.le_refl _ | with_reducible assumption | (with_reducible refine Nat.le_succ_of_le ?_; (first | with_reducible exact Nat.le_refl _ | with_reducible assumption))))) | (focus ((with_reducible apply bl_call'); with_reducible assumption)))); have m0 := blk_cell (blk_below HB3.out HBV.out) 0; have m1 := blk_cell (blk_below HB3.out HBV.out) 1; have m2 := blk_cell (blk_below HB3.out HBV.out) 2; have mf := blk_frozen (blk_below HB3.out HBV.out); simp at m0 m1 m2; obtain ⟨A11, c11, rfl, l7, l8⟩ := hn3.len; obtain ⟨A12, c12, rfl, l9, l10⟩ := hd3.len; clear hn3 hd3))
      go_wp2_with fail
      refine bodyPost_ret (v := .tuple #[.agg #[.bool (raw (qv r / qv s)).neg, .slice A11 (raw (qv r / qv s)).num.length c11, .slice A12 (raw (qv r / qv s)).den.length c12], .bool true]) (by simp [results, Try.results19, go_sem, m0, m1, m2]) rfl ⟨_, by rw [HD0.out], ?_, ?_⟩
      · refine ⟨_, _, rfl, ?_, ?_⟩
        · exact (((HN3.out.set (fun h => h.2 rfl) _).set (fun h => h.2 rfl) _).set (fun h => h.2 rfl) _).mono (fun b _ h => h.1)
        · exact (((HD3.out.set (fun h => h.2 rfl) _).set (fun h => h.2 rfl) _).set (fun h => h.2 rfl) _).mono (fun b _ h => h.1)
      · exact bl_set (bl_set (bl_set (bl_call HBC.out HBV.out) (by simp <;> omega) _) (by simp <;> omega) _) (by simp <;> omega) _
end Go.Proofs.Ytikpdkgamcecjaa
