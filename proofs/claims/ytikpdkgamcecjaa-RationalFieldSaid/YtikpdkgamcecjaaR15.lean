/- Walks: Div. -/
import Derived.Test.YtikpdkgamcecjaaR14
namespace Go.Proofs.Ytikpdkgamcecjaa
open Go.RowKit
set_option linter.unusedSimpArgs false
set_option linter.unusedVariables false

theorem inv_mk (Y : Rat) (h : Y.num ≠ 0) : Y⁻¹ = mkRat (sg (decide (Y.num < 0)) Y.den) Y.num.natAbs := by
  rw [Rat.inv_def]
  obtain ⟨n, hn⟩ : ∃ n, n = Y.num := ⟨_, rfl⟩
  rw [← hn] at h ⊢
  cases n with
  | ofNat n =>
    have : decide (Int.ofNat n < 0) = false := by simp
    rw [this]; rfl
  | negSucc n =>
    have : decide (Int.negSucc n < 0) = true := by simp
    rw [this]
    unfold Rat.divInt sg
    simp [Rat.normalize_eq_mkRat]
theorem rat_div (X Y : Rat) (h : Y.num ≠ 0) : mkRat (sg (decide (X.num < 0) != decide (Y.num < 0)) (X.num.natAbs * Y.den)) (X.den * Y.num.natAbs) = X / Y := by
  rw [Rat.div_def, inv_mk Y h, ← sg_mul, sg_abs, ← Rat.mkRat_mul_mkRat, Rat.mkRat_self]
theorem rat_div_zero (X Y : Rat) (h : Y.num = 0) : X / Y = 0 := by
  rw [Rat.num_eq_zero.1 h, Rat.div_def, Rat.inv_zero, Rat.mul_zero]

set_option maxRecDepth 100000 in
set_option maxHeartbeats 4000000 in
theorem Div_any (ok : Nat → Prop) (v u : Value) (r s : Raw) (w : World) (hok : ∀ b, w.heap.size ≤ b → ok b) (hr : RdR w v r) (hs : RdR w u s) (gr : Good 4000000 r) (gs : Good 4000000 s) :
    Calls Try.prog 18 #[v, u] w fun e w' => ∃ z, e = .returned (.tuple #[z, .bool (decide (qv s ≠ 0))]) ∧ RdRaw w' ok z (raw (qv r / qv s)) ∧ Below w.heap.size w w' := by
  have HOK := Lib.hid hok
  clear hok
  have HR := Lib.hid hr
  have HS := Lib.hid hs
  obtain ⟨n1, d1, rfl, hn1, hd1⟩ := hr
  obtain ⟨n2, d2, rfl, hn2, hd2⟩ := hs
  obtain ⟨A1, c1, rfl, _, _⟩ := hn1.len
  obtain ⟨A2, c2, rfl, _, _⟩ := hd1.len
  obtain ⟨A3, c3, rfl, _, _⟩ := hn2.len
  obtain ⟨A4, c4, rfl, _, _⟩ := hd2.len
  clear hn1 hd1 hn2 hd2
  go_enter Try.func18, Try.ntmps18
  go_upto_region 1 with (fail)
  obtain ⟨W, hW⟩ : ∃ W, W = ((w.alloc (.cells #[.bool r.neg, .slice A1 r.num.length c1, .slice A2 r.den.length c2] 24)).alloc (.cells #[.bool s.neg, .slice A3 s.num.length c3, .slice A4 s.den.length c4] 24)).alloc (.cells #[.bool false, .slice none 0 0, .slice none 0 0] 24) := ⟨_, rfl⟩
  have b1 : W.heap[w.heap.size]? = some (.cells #[.bool r.neg, .slice A1 r.num.length c1, .slice A2 r.den.length c2] 24 (0, 0)) := by rw [hW]; exact blk_alloc (blk_alloc (blk_new _ _) _) _
  have b2 : W.heap[w.heap.size + 1]? = some (.cells #[.bool s.neg, .slice A3 s.num.length c3, .slice A4 s.den.length c4] 24 (0, 0)) := by rw [hW]; exact blk_alloc (blk_new' (by simp) _) _
  have b3 : W.heap[w.heap.size + 1 + 1]? = some (.cells #[.bool false, .slice none 0 0, .slice none 0 0] 24 (0, 0)) := by rw [hW]; exact blk_new' (by simp) _
  have B3 := Lib.hid b3
  have hbw : Below w.heap.size w W := by rw [hW]; exact bl_alloc (bl_alloc (bl_alloc (Below.refl _ _) _) _) _
  have hsz : W.heap.size = w.heap.size + 1 + 1 + 1 := by rw [hW]; simp
  rw [← hW]
  have HBW := Lib.hid hbw
  have HSZ := Lib.hid hsz
  have RR := Lib.hid (fun (W2 : World) (h : Below W.heap.size W W2) => HR.out.below (bl_call hbw h))
  have SS := Lib.hid (fun (W2 : World) (h : Below W.heap.size W W2) => HS.out.below (bl_call hbw h))
  have HK := Lib.hid (show ∀ w', Below W.heap.size W w' → (w'.cell? ⟨w.heap.size, 0, none⟩ = some (.bool r.neg) ∧ w'.cell? ⟨w.heap.size, 1, none⟩ = some (.slice A1 r.num.length c1) ∧ w'.cell? ⟨w.heap.size, 2, none⟩ = some (.slice A2 r.den.length c2) ∧ w'.cell? ⟨w.heap.size + 1, 0, none⟩ = some (.bool s.neg) ∧ w'.cell? ⟨w.heap.size + 1, 1, none⟩ = some (.slice A3 s.num.length c3) ∧ w'.cell? ⟨w.heap.size + 1, 2, none⟩ = some (.slice A4 s.den.length c4)) from fun w' hb =>
    ⟨blk_cell (blk_below b1 hb) 0, blk_cell (blk_below b1 hb) 1, blk_cell (blk_below b1 hb) 2, blk_cell (blk_below b2 hb) 0, blk_cell (blk_below b2 hb) 1, blk_cell (blk_below b2 hb) 2⟩)
  clear hW b1 b2 b3 hbw hsz
  go_cut [6, 7] (fun v5 v6 wc => ∃ g5 g6 : Nat, v5 = .pointer (some ⟨g5, 0, none⟩) ∧ v6 = .pointer (some ⟨g6, 0, none⟩) ∧ Var wc g5 (qv r) ∧ Var wc g6 (qv s) ∧ (W.heap.size ≤ g5 ∧ W.heap.size ≤ g6) ∧ Below W.heap.size W wc)
  case first =>
    go_region_held3 (fun w' => w'.cell? ⟨w.heap.size, 0, none⟩ = some (.bool r.neg) ∧ w'.cell? ⟨w.heap.size, 1, none⟩ = some (.slice A1 r.num.length c1) ∧ w'.cell? ⟨w.heap.size, 2, none⟩ = some (.slice A2 r.den.length c2) ∧ w'.cell? ⟨w.heap.size + 1, 0, none⟩ = some (.bool s.neg) ∧ w'.cell? ⟨w.heap.size + 1, 1, none⟩ = some (.slice A3 s.num.length c3) ∧ w'.cell? ⟨w.heap.size + 1, 2, none⟩ = some (.slice A4 s.den.length c4))
      (first
        | (refine HK.out _ ?_; repeat (first | (with_reducible exact Below.refl _ _) | (with_reducible refine bl_alloc ?_ _) | (with_reducible refine bl_drew ?_) | (focus ((with_reducible refine bl_set ?_ ?_ _); rotate_left; (first | with_reducible exact Nat.le_refl _ | with_reducible assumption | (with_reducible refine Nat.le_succ_of_le ?_; (first | with_reducible exact Nat.le_refl _ | with_reducible assumption))))) | (focus ((with_reducible apply bl_call'); with_reducible assumption))))
        | go_keep)
      (first
        | (go_at_call_of 48 (Value.bool r.neg); refine (canon_any _ _ r _ (fun _ h => h) ?_ (gr.le (by omega))).mono ?_; (refine RR.out _ ?_; repeat (first | (with_reducible exact Below.refl _ _) | (with_reducible refine bl_alloc ?_ _) | (with_reducible refine bl_drew ?_) | (focus ((with_reducible refine bl_set ?_ ?_ _); rotate_left; (first | with_reducible exact Nat.le_refl _ | with_reducible assumption | (with_reducible refine Nat.le_succ_of_le ?_; (first | with_reducible exact Nat.le_refl _ | with_reducible assumption))))) | (focus ((with_reducible apply bl_call'); with_reducible assumption)))); rintro e w1 ⟨z1, rfl, ⟨n5, d5, rfl, hn5, hd5⟩, hb1⟩; obtain ⟨A5, c5, rfl, _, _⟩ := hn5.len; obtain ⟨A6, c6, rfl, _, _⟩ := hd5.len; (first | (have ep : w1.heap[W.heap.size]? = some (.cells #[.bool false, .slice none 0 0, .slice none 0 0] 24 (0, 0)) := blk_fit (w := (W.alloc (.cells #[.bool false, .slice none 0 0, .slice none 0 0] 24)).alloc (.cells #[.bool false, .slice none 0 0, .slice none 0 0] 24)) hb1 rfl (blk_alloc (blk_new W (.cells #[.bool false, .slice none 0 0, .slice none 0 0] 24)) (.cells #[.bool false, .slice none 0 0, .slice none 0 0] 24)); have fep0 := blk_cell ep 0; have fep1 := blk_cell ep 1; have fep2 := blk_cell ep 2; have fepf := blk_frozen ep; simp at fep0 fep1 fep2; have kep := blk_lt ep; have Eep := Lib.hid ep; clear ep; have eq : w1.heap[W.heap.size + 1]? = some (.cells #[.bool false, .slice none 0 0, .slice none 0 0] 24 (0, 0)) := blk_fit (w := (W.alloc (.cells #[.bool false, .slice none 0 0, .slice none 0 0] 24)).alloc (.cells #[.bool false, .slice none 0 0, .slice none 0 0] 24)) hb1 rfl (blk_new' (w := W.alloc (.cells #[.bool false, .slice none 0 0, .slice none 0 0] 24)) (g := W.heap.size + 1) (alloc_size W (.cells #[.bool false, .slice none 0 0, .slice none 0 0] 24)).symm (.cells #[.bool false, .slice none 0 0, .slice none 0 0] 24)); have feq0 := blk_cell eq 0; have feq1 := blk_cell eq 1; have feq2 := blk_cell eq 2; have feqf := blk_frozen eq; simp at feq0 feq1 feq2; have keq := blk_lt eq; have Eeq := Lib.hid eq; clear eq) | (have ep : w1.heap[W.heap.size]? = some (.cells #[.bool false, .slice none 0 0, .slice none 0 0] 24 (0, 0)) := blk_fit (w := W.alloc (.cells #[.bool false, .slice none 0 0, .slice none 0 0] 24)) hb1 rfl (blk_new W (.cells #[.bool false, .slice none 0 0, .slice none 0 0] 24)); have fep0 := blk_cell ep 0; have fep1 := blk_cell ep 1; have fep2 := blk_cell ep 2; have fepf := blk_frozen ep; simp at fep0 fep1 fep2; have kep := blk_lt ep; have Eep := Lib.hid ep; clear ep) | skip); have k1 : W.heap.size ≤ w1.heap.size := (by { have h9 := hb1.size; first | exact h9 | (simp at h9; omega) | omega }); have HN5 := Lib.hid (hn5.mono (ok' := fun b => _ ∧ b < w1.heap.size) (fun b hl hk => ⟨hk, hl⟩)); have HD5 := Lib.hid (hd5.mono (ok' := fun b => _ ∧ b < w1.heap.size) (fun b hl hk => ⟨hk, hl⟩)); clear hn5 hd5)
        | (go_at_call 48; refine (canon_any _ _ s _ (fun _ h => h) ?_ (gs.le (by omega))).mono ?_; (refine SS.out _ ?_; repeat (first | (with_reducible exact Below.refl _ _) | (with_reducible refine bl_alloc ?_ _) | (with_reducible refine bl_drew ?_) | (focus ((with_reducible refine bl_set ?_ ?_ _); rotate_left; (first | with_reducible exact Nat.le_refl _ | with_reducible assumption | (with_reducible refine Nat.le_succ_of_le ?_; (first | with_reducible exact Nat.le_refl _ | with_reducible assumption))))) | (focus ((with_reducible apply bl_call'); with_reducible assumption)))); rintro e w2 ⟨z2, rfl, ⟨n6, d6, rfl, hn6, hd6⟩, hb2⟩; obtain ⟨A7, c7, rfl, _, _⟩ := hn6.len; obtain ⟨A8, c8, rfl, _, _⟩ := hd6.len; (first | (have epp : w2.heap[W.heap.size]? = some (.cells #[.bool false, .slice none 0 0, .slice none 0 0] 24 (0, 0)) := blk_fit (w := w1) hb2 rfl Eep.out; have fepp0 := blk_cell epp 0; have fepp1 := blk_cell epp 1; have fepp2 := blk_cell epp 2; have feppf := blk_frozen epp; simp at fepp0 fepp1 fepp2; have kepp := blk_lt epp; have Eepp := Lib.hid epp; clear epp; have eqq : w2.heap[W.heap.size + 1]? = some (.cells #[.bool false, .slice none 0 0, .slice none 0 0] 24 (0, 0)) := blk_fit (w := w1) hb2 rfl Eeq.out; have feqq0 := blk_cell eqq 0; have feqq1 := blk_cell eqq 1; have feqq2 := blk_cell eqq 2; have feqqf := blk_frozen eqq; simp at feqq0 feqq1 feqq2; have keqq := blk_lt eqq; have Eeqq := Lib.hid eqq; clear eqq) | (have epp : w2.heap[W.heap.size]? = some (.cells #[.bool false, .slice none 0 0, .slice none 0 0] 24 (0, 0)) := blk_fit (w := w1.alloc (.cells #[.bool false, .slice none 0 0, .slice none 0 0] 24)) hb2 rfl (blk_alloc Eep.out (.cells #[.bool false, .slice none 0 0, .slice none 0 0] 24)); have fepp0 := blk_cell epp 0; have fepp1 := blk_cell epp 1; have fepp2 := blk_cell epp 2; have feppf := blk_frozen epp; simp at fepp0 fepp1 fepp2; have kepp := blk_lt epp; have Eepp := Lib.hid epp; clear epp; have er : w2.heap[w1.heap.size]? = some (.cells #[.bool false, .slice none 0 0, .slice none 0 0] 24 (0, 0)) := blk_fit (w := w1.alloc (.cells #[.bool false, .slice none 0 0, .slice none 0 0] 24)) hb2 rfl (blk_new w1 (.cells #[.bool false, .slice none 0 0, .slice none 0 0] 24)); have fer0 := blk_cell er 0; have fer1 := blk_cell er 1; have fer2 := blk_cell er 2; have ferf := blk_frozen er; simp at fer0 fer1 fer2; have ker := blk_lt er; have Eer := Lib.hid er; clear er) | (have epp : w2.heap[W.heap.size]? = some (.cells #[.bool false, .slice none 0 0, .slice none 0 0] 24 (0, 0)) := blk_fit (w := w1) hb2 rfl Eep.out; have fepp0 := blk_cell epp 0; have fepp1 := blk_cell epp 1; have fepp2 := blk_cell epp 2; have feppf := blk_frozen epp; simp at fepp0 fepp1 fepp2; have kepp := blk_lt epp; have Eepp := Lib.hid epp; clear epp) | (have er : w2.heap[w1.heap.size]? = some (.cells #[.bool false, .slice none 0 0, .slice none 0 0] 24 (0, 0)) := blk_fit (w := (w1.alloc (.cells #[.bool false, .slice none 0 0, .slice none 0 0] 24)).alloc (.cells #[.bool false, .slice none 0 0, .slice none 0 0] 24)) hb2 rfl (blk_alloc (blk_new w1 (.cells #[.bool false, .slice none 0 0, .slice none 0 0] 24)) (.cells #[.bool false, .slice none 0 0, .slice none 0 0] 24)); have fer0 := blk_cell er 0; have fer1 := blk_cell er 1; have fer2 := blk_cell er 2; have ferf := blk_frozen er; simp at fer0 fer1 fer2; have ker := blk_lt er; have Eer := Lib.hid er; clear er; have et : w2.heap[w1.heap.size + 1]? = some (.cells #[.bool false, .slice none 0 0, .slice none 0 0] 24 (0, 0)) := blk_fit (w := (w1.alloc (.cells #[.bool false, .slice none 0 0, .slice none 0 0] 24)).alloc (.cells #[.bool false, .slice none 0 0, .slice none 0 0] 24)) hb2 rfl (blk_new' (w := w1.alloc (.cells #[.bool false, .slice none 0 0, .slice none 0 0] 24)) (g := w1.heap.size + 1) (alloc_size w1 (.cells #[.bool false, .slice none 0 0, .slice none 0 0] 24)).symm (.cells #[.bool false, .slice none 0 0, .slice none 0 0] 24)); have fet0 := blk_cell et 0; have fet1 := blk_cell et 1; have fet2 := blk_cell et 2; have fetf := blk_frozen et; simp at fet0 fet1 fet2; have ket := blk_lt et; have Eet := Lib.hid et; clear et) | (have er : w2.heap[w1.heap.size]? = some (.cells #[.bool false, .slice none 0 0, .slice none 0 0] 24 (0, 0)) := blk_fit (w := w1.alloc (.cells #[.bool false, .slice none 0 0, .slice none 0 0] 24)) hb2 rfl (blk_new w1 (.cells #[.bool false, .slice none 0 0, .slice none 0 0] 24)); have fer0 := blk_cell er 0; have fer1 := blk_cell er 1; have fer2 := blk_cell er 2; have ferf := blk_frozen er; simp at fer0 fer1 fer2; have ker := blk_lt er; have Eer := Lib.hid er; clear er) | skip); have k2 : W.heap.size ≤ w2.heap.size := (by { have h9 := hb2.size; first | exact Nat.le_trans k1 h9 | (simp at h9; omega) | omega }); have HN6 := Lib.hid (hn6.mono (ok' := fun b => _ ∧ b < w2.heap.size) (fun b hl hk => ⟨hk, hl⟩)); have HD6 := Lib.hid (hd6.mono (ok' := fun b => _ ∧ b < w2.heap.size) (fun b hl hk => ⟨hk, hl⟩)); clear hn6 hd6))
    all_goals (go_wp2; go_meet)
    all_goals (go_light; refine ⟨_, _, rfl, rfl, ?_, ?_, ?_, ?_⟩)
    all_goals first
      | (focus (refine ⟨?_, ?_⟩ <;> (first | with_reducible exact Nat.le_refl _ | with_reducible assumption | omega)))
      | (apply Var.mk
         · repeat (first
          | (with_reducible exact blk_new _ _)
          | (with_reducible exact Eep.out) | (with_reducible exact Eeq.out) | (with_reducible exact Eepp.out) | (with_reducible exact Eeqq.out) | (with_reducible exact Eer.out) | (with_reducible exact Eet.out)
          | (focus ((with_reducible refine blk_new' ?_ _); (focus (simp; done))))
          | (with_reducible refine blk_alloc ?_ _) | (with_reducible refine blk_drew ?_) | (with_reducible apply blk_set3)
          | (focus ((with_reducible refine blk_far ?_ ?_ _); rotate_left; (focus (dsimp only; have h1 := hb1.size; have h2 := hb2.size; (try simp only [alloc_size, drew_size, set_size] at h1 h2); omega)))))
         · first
             | (focus ((refine rdf_as HN5.out ?_; intro h8; repeat (first
          | (with_reducible exact h8) | (with_reducible refine rdf_alloc ?_ _) | (with_reducible refine rdf_drew ?_)
          | (focus ((with_reducible refine Rdf.set ?_ ?_ _); rotate_left; (focus (dsimp only; intro h9; have h1 := hb1.size; have h2 := hb2.size; (try simp only [alloc_size, drew_size, set_size] at h1 h2); (try simp only [alloc_size, drew_size, set_size] at h9); omega))))
          | (focus ((with_reducible apply Rdf.below); rotate_left; with_reducible assumption)))); done))
             | (focus ((refine rdf_as HN6.out ?_; intro h8; repeat (first
          | (with_reducible exact h8) | (with_reducible refine rdf_alloc ?_ _) | (with_reducible refine rdf_drew ?_)
          | (focus ((with_reducible refine Rdf.set ?_ ?_ _); rotate_left; (focus (dsimp only; intro h9; have h1 := hb1.size; have h2 := hb2.size; (try simp only [alloc_size, drew_size, set_size] at h1 h2); (try simp only [alloc_size, drew_size, set_size] at h9); omega))))
          | (focus ((with_reducible apply Rdf.below); rotate_left; with_reducible assumption)))); done))
         · first
             | (focus ((refine rdf_as HD5.out ?_; intro h8; repeat (first
          | (with_reducible exact h8) | (with_reducible refine rdf_alloc ?_ _) | (with_reducible refine rdf_drew ?_)
          | (focus ((with_reducible refine Rdf.set ?_ ?_ _); rotate_left; (focus (dsimp only; intro h9; have h1 := hb1.size; have h2 := hb2.size; (try simp only [alloc_size, drew_size, set_size] at h1 h2); (try simp only [alloc_size, drew_size, set_size] at h9); omega))))
          | (focus ((with_reducible apply Rdf.below); rotate_left; with_reducible assumption)))); done))
             | (focus ((refine rdf_as HD6.out ?_; intro h8; repeat (first
          | (with_reducible exact h8) | (with_reducible refine rdf_alloc ?_ _) | (with_reducible refine rdf_drew ?_)
          | (focus ((with_reducible refine Rdf.set ?_ ?_ _); rotate_left; (focus (dsimp only; intro h9; have h1 := hb1.size; have h2 := hb2.size; (try simp only [alloc_size, drew_size, set_size] at h1 h2); (try simp only [alloc_size, drew_size, set_size] at h9); omega))))
          | (focus ((with_reducible apply Rdf.below); rotate_left; with_reducible assumption)))); done)))
      | (focus ((repeat (first | (with_reducible exact Below.refl _ _) | (with_reducible refine bl_alloc ?_ _) | (with_reducible refine bl_drew ?_) | (focus ((with_reducible refine bl_set ?_ ?_ _); rotate_left; (first | with_reducible exact Nat.le_refl _ | with_reducible assumption | (with_reducible refine Nat.le_succ_of_le ?_; (first | with_reducible exact Nat.le_refl _ | with_reducible assumption))))) | (focus ((with_reducible apply bl_call'); with_reducible assumption)))); done))
      | fail
  case rest =>
    obtain ⟨g5, g6, rfl, rfl, ⟨n5, d5, e5, hn5, hd5⟩, ⟨n6, d6, e6, hn6, hd6⟩, ⟨hg5, hg6⟩, hbw⟩ := hcut
    obtain ⟨l1, l2⟩ := raw_len gr
    obtain ⟨l3, l4⟩ := raw_len gs
    obtain ⟨X, hX⟩ : ∃ X, X = qv r := ⟨_, rfl⟩
    obtain ⟨Y, hY⟩ : ∃ X, X = qv s := ⟨_, rfl⟩
    rw [← hX] at e5 hn5 hd5 l1 l2
    rw [← hY] at e6 hn6 hd6 l3 l4
    have Q1 := Lib.hid (show (limbs X.num.natAbs).length ≤ 4000001 from l1)
    have Q2 := Lib.hid (show (limbs X.den).length ≤ 4000001 from l2)
    have Q3 := Lib.hid (show (limbs Y.num.natAbs).length ≤ 4000001 from l3)
    have Q4 := Lib.hid (show (limbs Y.den).length ≤ 4000001 from l4)
    by_cases hY0 : Y.num = 0
    · have HE := Lib.hid (show qv r / qv s = 0 from by rw [← hX, ← hY]; exact rat_div_zero X Y hY0)
      have HD0 := Lib.hid (show decide (qv s ≠ 0) = false from by rw [← hY]; simp [Rat.num_eq_zero.1 hY0])
      have hk7 : (raw Y).num.length = 0 := by show (limbs Y.num.natAbs).length = 0; rw [hY0]; simp [limbs_zero]
      obtain ⟨A7, c7, rfl, _, _⟩ := hn6
      obtain ⟨A8, c8, rfl, _, _⟩ := hd6
      rw [hk7] at e6
      have b3 := blk_below B3.out hbw
      have p0 := blk_cell e6 0
      have p1 := blk_cell e6 1
      simp at p0 p1
      have HB3 := Lib.hid b3
      have HBC := Lib.hid (bl_call HBW.out hbw)
      have hsz : w.heap.size + 1 + 1 < wc.heap.size := blk_lt b3
      clear hbw b3 e5 e6 HK RR SS HSZ HR HS gr gs
      go_wp2_with fail
      refine (made_zero (fun x => ok x ∧ x ≠ w.heap.size + 1 + 1) false _ _ _ (fun b hb => ⟨HOK.out b (by omega), by omega⟩) (by rw [limbs_zero]; exact rd_nil _ _ _)).mono ?_
      rintro e v3 ⟨r3, rfl, ⟨n3, d3, rfl, hn3, hd3⟩, hv3⟩
      have HN3 := Lib.hid hn3
      have HD3 := Lib.hid hd3
      have HBV := Lib.hid hv3
      have m0 := blk_cell (blk_below HB3.out HBV.out) 0
      have m1 := blk_cell (blk_below HB3.out HBV.out) 1
      have m2 := blk_cell (blk_below HB3.out HBV.out) 2
      have mf := blk_frozen (blk_below HB3.out HBV.out)
      simp at m0 m1 m2
      obtain ⟨A11, c11, rfl, l7, l8⟩ := hn3.len
      obtain ⟨A12, c12, rfl, l9, l10⟩ := hd3.len
      clear hn3 hd3 hv3
      go_wp2_with fail
      refine bodyPost_ret (v := .tuple #[.agg #[.bool (raw 0).neg, .slice A11 (raw 0).num.length c11, .slice A12 (raw 0).den.length c12], .bool false]) (by simp [results, Try.results18, go_sem, m0, m1, m2]) rfl ⟨_, by rw [HD0.out], ?_, ?_⟩
      · rw [HE.out]
        refine ⟨_, _, rfl, ?_, ?_⟩
        · exact (((HN3.out.set (fun h => h.2 rfl) _).set (fun h => h.2 rfl) _).set (fun h => h.2 rfl) _).mono (fun b _ h => h.1)
        · exact (((HD3.out.set (fun h => h.2 rfl) _).set (fun h => h.2 rfl) _).set (fun h => h.2 rfl) _).mono (fun b _ h => h.1)
      · exact bl_set (bl_set (bl_set (bl_call HBC.out HBV.out) (by simp <;> omega) _) (by simp <;> omega) _) (by simp <;> omega) _
    · have HD0 := Lib.hid (show decide (qv s ≠ 0) = true from by rw [← hY]; simp; exact fun e => hY0 (by rw [e]; rfl))
      obtain ⟨nx, hnx⟩ : ∃ n, n = (raw X).neg := ⟨_, rfl⟩
      obtain ⟨ny, hny⟩ : ∃ n, n = (raw Y).neg := ⟨_, rfl⟩
      rw [← hnx] at e5
      rw [← hny] at e6
      have HE := Lib.hid (show mkRat (sg (nx != ny) (X.num.natAbs * Y.den)) (X.den * Y.num.natAbs) = qv r / qv s by rw [hnx, hny, ← hX, ← hY]; exact rat_div X Y hY0)
      have P1 := Lib.hid hn5
      have P2 := Lib.hid hd5
      have P3 := Lib.hid hn6
      have P4 := Lib.hid hd6
      obtain ⟨A5, c5, rfl, _, _⟩ := hn5
      obtain ⟨A6, c6, rfl, _, _⟩ := hd5
      obtain ⟨A7, c7, rfl, _, _⟩ := hn6
      obtain ⟨A8, c8, rfl, _, _⟩ := hd6
      obtain ⟨k5, hk5⟩ : ∃ k, k = (raw X).num.length := ⟨_, rfl⟩
      obtain ⟨k6, hk6⟩ : ∃ k, k = (raw X).den.length := ⟨_, rfl⟩
      obtain ⟨k7, hk7⟩ : ∃ k, k = (raw Y).num.length := ⟨_, rfl⟩
      obtain ⟨k8, hk8⟩ : ∃ k, k = (raw Y).den.length := ⟨_, rfl⟩
      rw [← hk5] at P1 e5
      rw [← hk6] at P2 e5
      rw [← hk7] at P3 e6
      rw [← hk8] at P4 e6
      have t1 : ((k7 : Int) == 0) = false := by
        have h9 : (limbs Y.num.natAbs) ≠ [] := fun e => hY0 (by have := limbs_eq_nil.1 e; omega)
        have h8 : k7 ≠ 0 := by rw [hk7]; exact fun e => h9 (List.eq_nil_of_length_eq_zero e)
        simp; omega
      have HYN := Lib.hid hY0
      clear hk5 hk6 hk7 hk8 hX hY hnx hny
      have b3 := blk_below B3.out hbw
      have HB3 := Lib.hid b3
      have HE5 := Lib.hid e5
      have HE6 := Lib.hid e6
      have HBC := Lib.hid (bl_call HBW.out hbw)
      have hsz : w.heap.size + 1 + 1 < wc.heap.size := blk_lt b3
      have M1 := Lib.hid (fun (W2 : World) (hb : Below wc.heap.size wc W2) => mul_nat (fun _ => True) (.slice A5 k5 c5) (.slice A8 k8 c8) X.num.natAbs Y.den W2 (fun _ _ => trivial) (P1.out.below hb) (P4.out.below hb) (by have := Q1.out; omega) (by have := Q4.out; omega))
      have M2 := Lib.hid (fun (W2 : World) (hb : Below wc.heap.size wc W2) => mul_nat (fun _ => True) (.slice A6 k6 c6) (.slice A7 k7 c7) X.den Y.num.natAbs W2 (fun _ _ => trivial) (P2.out.below hb) (P3.out.below hb) (by have := Q2.out; omega) (by have := Q3.out; omega))
      have ML := Lib.hid (show (limbs (X.num.natAbs * Y.den)).length ≤ 16777216 ∧ (limbs (X.den * Y.num.natAbs)).length ≤ 16777216 ∧ X.den * Y.num.natAbs ≠ 0 from ⟨by have := limbs_len_mul X.num.natAbs Y.den; have := Q1.out; have := Q4.out; omega, by have := limbs_len_mul X.den Y.num.natAbs; have := Q2.out; have := Q3.out; omega, Nat.mul_ne_zero X.den_nz (by omega)⟩)
      have HK2 := Lib.hid (show ∀ w', Below wc.heap.size wc w' → (w'.cell? ⟨g5, 0, none⟩ = some (.bool nx) ∧ w'.cell? ⟨g5, 1, none⟩ = some (.slice A5 k5 c5) ∧ w'.cell? ⟨g5, 2, none⟩ = some (.slice A6 k6 c6) ∧ w'.cell? ⟨g6, 0, none⟩ = some (.bool ny) ∧ w'.cell? ⟨g6, 1, none⟩ = some (.slice A7 k7 c7) ∧ w'.cell? ⟨g6, 2, none⟩ = some (.slice A8 k8 c8)) from fun w' hb =>
        ⟨blk_cell (blk_below HE5.out hb) 0, blk_cell (blk_below HE5.out hb) 1, blk_cell (blk_below HE5.out hb) 2, blk_cell (blk_below HE6.out hb) 0, blk_cell (blk_below HE6.out hb) 1, blk_cell (blk_below HE6.out hb) 2⟩)
      have d5 : g5 ≠ w.heap.size + 1 + 1 := by have := HSZ.out; omega
      have d6 : g6 ≠ w.heap.size + 1 + 1 := by have := HSZ.out; omega
      have HK3 := Lib.hid (show ∀ w', Below wc.heap.size wc w' → ∀ a b c : Value, (((((w'.setCell ⟨w.heap.size + 1 + 1, 0, none⟩ a).setCell ⟨w.heap.size + 1 + 1, 1, none⟩ b).setCell ⟨w.heap.size + 1 + 1, 2, none⟩ c).cell? ⟨g5, 0, none⟩ = some (.bool nx)) ∧ ((((w'.setCell ⟨w.heap.size + 1 + 1, 0, none⟩ a).setCell ⟨w.heap.size + 1 + 1, 1, none⟩ b).setCell ⟨w.heap.size + 1 + 1, 2, none⟩ c).cell? ⟨g5, 1, none⟩ = some (.slice A5 k5 c5)) ∧ ((((w'.setCell ⟨w.heap.size + 1 + 1, 0, none⟩ a).setCell ⟨w.heap.size + 1 + 1, 1, none⟩ b).setCell ⟨w.heap.size + 1 + 1, 2, none⟩ c).cell? ⟨g5, 2, none⟩ = some (.slice A6 k6 c6)) ∧ ((((w'.setCell ⟨w.heap.size + 1 + 1, 0, none⟩ a).setCell ⟨w.heap.size + 1 + 1, 1, none⟩ b).setCell ⟨w.heap.size + 1 + 1, 2, none⟩ c).cell? ⟨g6, 0, none⟩ = some (.bool ny)) ∧ ((((w'.setCell ⟨w.heap.size + 1 + 1, 0, none⟩ a).setCell ⟨w.heap.size + 1 + 1, 1, none⟩ b).setCell ⟨w.heap.size + 1 + 1, 2, none⟩ c).cell? ⟨g6, 1, none⟩ = some (.slice A7 k7 c7)) ∧ ((((w'.setCell ⟨w.heap.size + 1 + 1, 0, none⟩ a).setCell ⟨w.heap.size + 1 + 1, 1, none⟩ b).setCell ⟨w.heap.size + 1 + 1, 2, none⟩ c).cell? ⟨g6, 2, none⟩ = some (.slice A8 k8 c8))) from fun w' hb a b c =>
        ⟨blk_cell (blk_far (blk_far (blk_far (blk_below HE5.out hb) d5 _) d5 _) d5 _) 0, blk_cell (blk_far (blk_far (blk_far (blk_below HE5.out hb) d5 _) d5 _) d5 _) 1, blk_cell (blk_far (blk_far (blk_far (blk_below HE5.out hb) d5 _) d5 _) d5 _) 2, blk_cell (blk_far (blk_far (blk_far (blk_below HE6.out hb) d6 _) d6 _) d6 _) 0, blk_cell (blk_far (blk_far (blk_far (blk_below HE6.out hb) d6 _) d6 _) d6 _) 1, blk_cell (blk_far (blk_far (blk_far (blk_below HE6.out hb) d6 _) d6 _) d6 _) 2⟩)
      have p1 := blk_cell e6 1
      simp at p1
      clear hbw b3 hg5 hg6 d5 d6 e5 e6 l1 l2 l3 l4 HK RR SS HSZ HR HS gr gs
      go_upto_region 4 with (fail)
      go_region_held3 (fun w' => w'.cell? ⟨g5, 0, none⟩ = some (.bool nx) ∧ w'.cell? ⟨g5, 1, none⟩ = some (.slice A5 k5 c5) ∧ w'.cell? ⟨g5, 2, none⟩ = some (.slice A6 k6 c6) ∧ w'.cell? ⟨g6, 0, none⟩ = some (.bool ny) ∧ w'.cell? ⟨g6, 1, none⟩ = some (.slice A7 k7 c7) ∧ w'.cell? ⟨g6, 2, none⟩ = some (.slice A8 k8 c8))
        (first
          | (focus (refine HK2.out _ ?_; (repeat (first | (with_reducible exact Below.refl _ _) | (with_reducible refine bl_alloc ?_ _) | (with_reducible refine bl_drew ?_) | (focus ((with_reducible refine bl_set ?_ ?_ _); rotate_left; (first | with_reducible exact Nat.le_refl _ | with_reducible assumption | (with_reducible refine Nat.le_succ_of_le ?_; (first | with_reducible exact Nat.le_refl _ | with_reducible assumption))))) | (focus ((with_reducible apply bl_call'); with_reducible assumption)))); done))
          | (focus (refine HK3.out _ ?_ _ _ _; (repeat (first | (with_reducible exact Below.refl _ _) | (with_reducible refine bl_alloc ?_ _) | (with_reducible refine bl_drew ?_) | (focus ((with_reducible refine bl_set ?_ ?_ _); rotate_left; (first | with_reducible exact Nat.le_refl _ | with_reducible assumption | (with_reducible refine Nat.le_succ_of_le ?_; (first | with_reducible exact Nat.le_refl _ | with_reducible assumption))))) | (focus ((with_reducible apply bl_call'); with_reducible assumption)))); done))
          | go_keep)
        (first
          | (go_at_call_of 58 (Value.slice A5 k5 c5); refine (M1.out _ ?_).mono ?_; (repeat (first | (with_reducible exact Below.refl _ _) | (with_reducible refine bl_alloc ?_ _) | (with_reducible refine bl_drew ?_) | (focus ((with_reducible refine bl_set ?_ ?_ _); rotate_left; (first | with_reducible exact Nat.le_refl _ | with_reducible assumption | (with_reducible refine Nat.le_succ_of_le ?_; (first | with_reducible exact Nat.le_refl _ | with_reducible assumption))))) | (focus ((with_reducible apply bl_call'); with_reducible assumption)))); rintro e v1 ⟨r1, rfl, hr1, hv1⟩; have HR1 := Lib.hid hr1; obtain ⟨A9, c9, rfl, _, _⟩ := hr1.len; clear hr1)
          | (go_at_call_of 58 (Value.slice A6 k6 c6); refine (M2.out _ ?_).mono ?_; (repeat (first | (with_reducible exact Below.refl _ _) | (with_reducible refine bl_alloc ?_ _) | (with_reducible refine bl_drew ?_) | (focus ((with_reducible refine bl_set ?_ ?_ _); rotate_left; (first | with_reducible exact Nat.le_refl _ | with_reducible assumption | (with_reducible refine Nat.le_succ_of_le ?_; (first | with_reducible exact Nat.le_refl _ | with_reducible assumption))))) | (focus ((with_reducible apply bl_call'); with_reducible assumption)))); rintro e v2 ⟨r2, rfl, hr2, hv2⟩; have HR2 := Lib.hid hr2; obtain ⟨A10, c10, rfl, _, _⟩ := hr2.len; clear hr2)
          | (go_at_call 57; refine (made_any (fun x => ok x ∧ x ≠ w.heap.size + 1 + 1) (nx != ny) _ _ (X.num.natAbs * Y.den) (X.den * Y.num.natAbs) _ ?_ (HR1.out.below hv2).now HR2.out.now ML.out.2.2 ML.out.1 ML.out.2.1).mono ?_; (exact fun b hb => ⟨HOK.out b (by have := HBC.out.size; have := hv1.size; have := hv2.size; simp at *; omega), by have := HBC.out.size; have := hv1.size; have := hv2.size; simp at *; omega⟩); rw [HE.out]; rintro e v3 ⟨r3, rfl, ⟨n3, d3, rfl, hn3, hd3⟩, hv3⟩; have HN3 := Lib.hid hn3; have HD3 := Lib.hid hd3; have HBV := Lib.hid (show Below wc.heap.size wc v3 from by repeat (first | (with_reducible exact Below.refl _ _) | (with_reducible refine bl_alloc ?_ _) | (with_reducible refine bl_drew ?_) | (focus ((with_reducible refine bl_set ?_ ?_ _); rotate_left; (first | with_reducible exact Nat.le_refl _ | with_reducible assumption | (with_reducible refine Nat.le_succ_of_le ?_; (first | with_reducible exact Nat.le_refl _ | with_reducible assumption))))) | (focus ((with_reducible apply bl_call'); with_reducible assumption)))); have m0 := blk_cell (blk_below HB3.out HBV.out) 0; have m1 := blk_cell (blk_below HB3.out HBV.out) 1; have m2 := blk_cell (blk_below HB3.out HBV.out) 2; have mf := blk_frozen (blk_below HB3.out HBV.out); simp at m0 m1 m2; obtain ⟨A11, c11, rfl, l7, l8⟩ := hn3.len; obtain ⟨A12, c12, rfl, l9, l10⟩ := hd3.len; clear hn3 hd3))
      go_wp2_with fail
      refine bodyPost_ret (v := .tuple #[.agg #[.bool (raw (qv r / qv s)).neg, .slice A11 (raw (qv r / qv s)).num.length c11, .slice A12 (raw (qv r / qv s)).den.length c12], .bool true]) (by simp [results, Try.results18, go_sem, m0, m1, m2]) rfl ⟨_, by rw [HD0.out], ?_, ?_⟩
      · refine ⟨_, _, rfl, ?_, ?_⟩
        · exact (((HN3.out.set (fun h => h.2 rfl) _).set (fun h => h.2 rfl) _).set (fun h => h.2 rfl) _).mono (fun b _ h => h.1)
        · exact (((HD3.out.set (fun h => h.2 rfl) _).set (fun h => h.2 rfl) _).set (fun h => h.2 rfl) _).mono (fun b _ h => h.1)
      · exact bl_set (bl_set (bl_set (bl_call HBC.out HBV.out) (by simp <;> omega) _) (by simp <;> omega) _) (by simp <;> omega) _
end Go.Proofs.Ytikpdkgamcecjaa
