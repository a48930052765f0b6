/- Walks: Add of the program. -/
import Derived.Test.YtikpdkgamcecjaaS5
import Derived.Deep.DeepCutAuto
import Derived.Deep.CutBlock
import Derived.Deep.Light
namespace Go.Proofs.Ytikpdkgamcecjaa
open Go.RowKit
set_option linter.unusedSimpArgs false
set_option linter.unusedVariables false

theorem add_nat (ok : Nat → Prop) (v u : Value) (a b : Nat) (w : World) (hok : ∀ b, w.heap.size ≤ b → ok b) (hx : Rd .u32 w v (limbs a)) (hy : Rd .u32 w u (limbs b)) (nx : (limbs a).length ≤ 16777216) (ny : (limbs b).length ≤ 16777216) :
    Calls Try.prog 69 #[v, u] w fun e w' => ∃ r, e = .returned r ∧ Rdf .u32 w' ok r (limbs (a + b)) ∧ Below w.heap.size w w' := by
  have h := add_any ok v u (limbs a) (limbs b) w hok hx hy (lb_limbs a) (lb_limbs b) nx ny
  have e : (val (limbs a) + val (limbs b)).toNat = a + b := by rw [val_limbs, val_limbs]; omega
  rwa [e] at h
theorem sub_nat (ok : Nat → Prop) (v u : Value) (a b : Nat) (w : World) (hok : ∀ b, w.heap.size ≤ b → ok b) (hx : Rd .u32 w v (limbs a)) (hy : Rd .u32 w u (limbs b)) (nx : (limbs a).length ≤ 16777216) (hab : b ≤ a) :
    Calls Try.prog 73 #[v, u] w fun e w' => ∃ r, e = .returned r ∧ Rdf .u32 w' ok r (limbs (a - b)) ∧ Below w.heap.size w w' := by
  have h := sub_any ok v u (limbs a) (limbs b) w hok hx hy (lb_limbs a) (lb_limbs b) nx (limbs_mono hab) (by rw [val_limbs, val_limbs]; omega)
  have e : (val (limbs a) - val (limbs b)).toNat = a - b := by rw [val_limbs, val_limbs]; omega
  rwa [e] at h
theorem cmpZ_ge {a b : Nat} (h : b ≤ a) : (0 : Int) ≤ cmpZ a b := by unfold cmpZ; split; omega; split <;> omega
theorem cmpZ_lt {a b : Nat} (h : a < b) : cmpZ (a : Int) b < 0 := by unfold cmpZ; rw [if_pos (by omega)]; omega
set_option maxRecDepth 100000 in
set_option maxHeartbeats 8000000 in
theorem Add_any (ok : Nat → Prop) (v u : Value) (r s : Raw) (w : World) (hok : ∀ b, w.heap.size ≤ b → ok b) (hr : RdR w v r) (hs : RdR w u s) (gr : Good 1000000 r) (gs : Good 1000000 s) :
    Calls Try.prog 43 #[v, u] w fun e w' => ∃ z, e = .returned z ∧ RdRaw w' ok z (raw (qv r + qv s)) ∧ Below w.heap.size w w' := by
  have HOK := Lib.hid hok
  clear hok
  have HR := Lib.hid hr
  have HS := Lib.hid hs
  obtain ⟨n1, d1, rfl, hn1, hd1⟩ := hr
  obtain ⟨n2, d2, rfl, hn2, hd2⟩ := hs
  obtain ⟨A1, c1, rfl, _, _⟩ := hn1.len
  obtain ⟨A2, c2, rfl, _, _⟩ := hd1.len
  obtain ⟨A3, c3, rfl, _, _⟩ := hn2.len
  obtain ⟨A4, c4, rfl, _, _⟩ := hd2.len
  clear hn1 hd1 hn2 hd2
  go_enter Try.func43, Try.ntmps43
  go_upto_region 1 with (fail)
  obtain ⟨W, hW⟩ : ∃ W, W = ((w.alloc (.cells #[.bool r.neg, .slice A1 r.num.length c1, .slice A2 r.den.length c2] 24)).alloc (.cells #[.bool s.neg, .slice A3 s.num.length c3, .slice A4 s.den.length c4] 24)).alloc (.cells #[.bool false, .slice none 0 0, .slice none 0 0] 24) := ⟨_, rfl⟩
  have b1 : W.heap[w.heap.size]? = some (.cells #[.bool r.neg, .slice A1 r.num.length c1, .slice A2 r.den.length c2] 24 (0, 0)) := by rw [hW]; exact blk_alloc (blk_alloc (blk_new _ _) _) _
  have b2 : W.heap[w.heap.size + 1]? = some (.cells #[.bool s.neg, .slice A3 s.num.length c3, .slice A4 s.den.length c4] 24 (0, 0)) := by rw [hW]; exact blk_alloc (blk_new' (by simp) _) _
  have b3 : W.heap[w.heap.size + 1 + 1]? = some (.cells #[.bool false, .slice none 0 0, .slice none 0 0] 24 (0, 0)) := by rw [hW]; exact blk_new' (by simp) _
  have B3 := Lib.hid b3
  have hbw : Below w.heap.size w W := by rw [hW]; exact bl_alloc (bl_alloc (bl_alloc (Below.refl _ _) _) _) _
  have hsz : W.heap.size = w.heap.size + 1 + 1 + 1 := by rw [hW]; simp
  rw [← hW]
  have HBW := Lib.hid hbw
  have HSZ := Lib.hid hsz
  have RR := Lib.hid (fun (W2 : World) (h : Below W.heap.size W W2) => HR.out.below (bl_call hbw h))
  have SS := Lib.hid (fun (W2 : World) (h : Below W.heap.size W W2) => HS.out.below (bl_call hbw h))
  have HK := Lib.hid (show ∀ w', Below W.heap.size W w' → (w'.cell? ⟨w.heap.size, 0, none⟩ = some (.bool r.neg) ∧ w'.cell? ⟨w.heap.size, 1, none⟩ = some (.slice A1 r.num.length c1) ∧ w'.cell? ⟨w.heap.size, 2, none⟩ = some (.slice A2 r.den.length c2) ∧ w'.cell? ⟨w.heap.size + 1, 0, none⟩ = some (.bool s.neg) ∧ w'.cell? ⟨w.heap.size + 1, 1, none⟩ = some (.slice A3 s.num.length c3) ∧ w'.cell? ⟨w.heap.size + 1, 2, none⟩ = some (.slice A4 s.den.length c4)) from fun w' hb =>
    ⟨blk_cell (blk_below b1 hb) 0, blk_cell (blk_below b1 hb) 1, blk_cell (blk_below b1 hb) 2, blk_cell (blk_below b2 hb) 0, blk_cell (blk_below b2 hb) 1, blk_cell (blk_below b2 hb) 2⟩)
  clear hW b1 b2 b3 hbw hsz
  go_cut [5, 6] (fun v5 v6 wc => ∃ g5 g6 : Nat, v5 = .pointer (some ⟨g5, 0, none⟩) ∧ v6 = .pointer (some ⟨g6, 0, none⟩) ∧ Var wc g5 (qv r) ∧ Var wc g6 (qv s) ∧ (W.heap.size ≤ g5 ∧ W.heap.size ≤ g6) ∧ Below W.heap.size W wc)
  case first =>
    go_region_held3 (fun w' => w'.cell? ⟨w.heap.size, 0, none⟩ = some (.bool r.neg) ∧ w'.cell? ⟨w.heap.size, 1, none⟩ = some (.slice A1 r.num.length c1) ∧ w'.cell? ⟨w.heap.size, 2, none⟩ = some (.slice A2 r.den.length c2) ∧ w'.cell? ⟨w.heap.size + 1, 0, none⟩ = some (.bool s.neg) ∧ w'.cell? ⟨w.heap.size + 1, 1, none⟩ = some (.slice A3 s.num.length c3) ∧ w'.cell? ⟨w.heap.size + 1, 2, none⟩ = some (.slice A4 s.den.length c4))
      (first
        | (refine HK.out _ ?_; repeat (first | (with_reducible exact Below.refl _ _) | (with_reducible refine bl_alloc ?_ _) | (with_reducible refine bl_drew ?_) | (focus ((with_reducible refine bl_set ?_ ?_ _); rotate_left; (first | with_reducible exact Nat.le_refl _ | with_reducible assumption | (with_reducible refine Nat.le_succ_of_le ?_; (first | with_reducible exact Nat.le_refl _ | with_reducible assumption))))) | (focus ((with_reducible apply bl_call'); with_reducible assumption))))
        | go_keep)
      (first
        | (go_at_call_of 48 (Value.bool r.neg); refine (canon_any _ _ r _ (fun _ h => h) ?_ (gr.le (by omega))).mono ?_; (refine RR.out _ ?_; repeat (first | (with_reducible exact Below.refl _ _) | (with_reducible refine bl_alloc ?_ _) | (with_reducible refine bl_drew ?_) | (focus ((with_reducible refine bl_set ?_ ?_ _); rotate_left; (first | with_reducible exact Nat.le_refl _ | with_reducible assumption | (with_reducible refine Nat.le_succ_of_le ?_; (first | with_reducible exact Nat.le_refl _ | with_reducible assumption))))) | (focus ((with_reducible apply bl_call'); with_reducible assumption)))); rintro e w1 ⟨z1, rfl, ⟨n5, d5, rfl, hn5, hd5⟩, hb1⟩; obtain ⟨A5, c5, rfl, _, _⟩ := hn5.len; obtain ⟨A6, c6, rfl, _, _⟩ := hd5.len; (first | (have ep : w1.heap[W.heap.size]? = some (.cells #[.bool false, .slice none 0 0, .slice none 0 0] 24 (0, 0)) := blk_fit (w := (W.alloc (.cells #[.bool false, .slice none 0 0, .slice none 0 0] 24)).alloc (.cells #[.bool false, .slice none 0 0, .slice none 0 0] 24)) hb1 rfl (blk_alloc (blk_new W (.cells #[.bool false, .slice none 0 0, .slice none 0 0] 24)) (.cells #[.bool false, .slice none 0 0, .slice none 0 0] 24)); have fep0 := blk_cell ep 0; have fep1 := blk_cell ep 1; have fep2 := blk_cell ep 2; have fepf := blk_frozen ep; simp at fep0 fep1 fep2; have kep := blk_lt ep; have Eep := Lib.hid ep; clear ep; have eq : w1.heap[W.heap.size + 1]? = some (.cells #[.bool false, .slice none 0 0, .slice none 0 0] 24 (0, 0)) := blk_fit (w := (W.alloc (.cells #[.bool false, .slice none 0 0, .slice none 0 0] 24)).alloc (.cells #[.bool false, .slice none 0 0, .slice none 0 0] 24)) hb1 rfl (blk_new' (w := W.alloc (.cells #[.bool false, .slice none 0 0, .slice none 0 0] 24)) (g := W.heap.size + 1) (alloc_size W (.cells #[.bool false, .slice none 0 0, .slice none 0 0] 24)).symm (.cells #[.bool false, .slice none 0 0, .slice none 0 0] 24)); have feq0 := blk_cell eq 0; have feq1 := blk_cell eq 1; have feq2 := blk_cell eq 2; have feqf := blk_frozen eq; simp at feq0 feq1 feq2; have keq := blk_lt eq; have Eeq := Lib.hid eq; clear eq) | (have ep : w1.heap[W.heap.size]? = some (.cells #[.bool false, .slice none 0 0, .slice none 0 0] 24 (0, 0)) := blk_fit (w := W.alloc (.cells #[.bool false, .slice none 0 0, .slice none 0 0] 24)) hb1 rfl (blk_new W (.cells #[.bool false, .slice none 0 0, .slice none 0 0] 24)); have fep0 := blk_cell ep 0; have fep1 := blk_cell ep 1; have fep2 := blk_cell ep 2; have fepf := blk_frozen ep; simp at fep0 fep1 fep2; have kep := blk_lt ep; have Eep := Lib.hid ep; clear ep) | skip); have k1 : W.heap.size ≤ w1.heap.size := (by { have h9 := hb1.size; first | exact h9 | (simp at h9; omega) | omega }); have HN5 := Lib.hid (hn5.mono (ok' := fun b => _ ∧ b < w1.heap.size) (fun b hl hk => ⟨hk, hl⟩)); have HD5 := Lib.hid (hd5.mono (ok' := fun b => _ ∧ b < w1.heap.size) (fun b hl hk => ⟨hk, hl⟩)); clear hn5 hd5)
        | (go_at_call 48; refine (canon_any _ _ s _ (fun _ h => h) ?_ (gs.le (by omega))).mono ?_; (refine SS.out _ ?_; repeat (first | (with_reducible exact Below.refl _ _) | (with_reducible refine bl_alloc ?_ _) | (with_reducible refine bl_drew ?_) | (focus ((with_reducible refine bl_set ?_ ?_ _); rotate_left; (first | with_reducible exact Nat.le_refl _ | with_reducible assumption | (with_reducible refine Nat.le_succ_of_le ?_; (first | with_reducible exact Nat.le_refl _ | with_reducible assumption))))) | (focus ((with_reducible apply bl_call'); with_reducible assumption)))); rintro e w2 ⟨z2, rfl, ⟨n6, d6, rfl, hn6, hd6⟩, hb2⟩; obtain ⟨A7, c7, rfl, _, _⟩ := hn6.len; obtain ⟨A8, c8, rfl, _, _⟩ := hd6.len; (first | (have epp : w2.heap[W.heap.size]? = some (.cells #[.bool false, .slice none 0 0, .slice none 0 0] 24 (0, 0)) := blk_fit (w := w1) hb2 rfl Eep.out; have fepp0 := blk_cell epp 0; have fepp1 := blk_cell epp 1; have fepp2 := blk_cell epp 2; have feppf := blk_frozen epp; simp at fepp0 fepp1 fepp2; have kepp := blk_lt epp; have Eepp := Lib.hid epp; clear epp; have eqq : w2.heap[W.heap.size + 1]? = some (.cells #[.bool false, .slice none 0 0, .slice none 0 0] 24 (0, 0)) := blk_fit (w := w1) hb2 rfl Eeq.out; have feqq0 := blk_cell eqq 0; have feqq1 := blk_cell eqq 1; have feqq2 := blk_cell eqq 2; have feqqf := blk_frozen eqq; simp at feqq0 feqq1 feqq2; have keqq := blk_lt eqq; have Eeqq := Lib.hid eqq; clear eqq) | (have epp : w2.heap[W.heap.size]? = some (.cells #[.bool false, .slice none 0 0, .slice none 0 0] 24 (0, 0)) := blk_fit (w := w1.alloc (.cells #[.bool false, .slice none 0 0, .slice none 0 0] 24)) hb2 rfl (blk_alloc Eep.out (.cells #[.bool false, .slice none 0 0, .slice none 0 0] 24)); have fepp0 := blk_cell epp 0; have fepp1 := blk_cell epp 1; have fepp2 := blk_cell epp 2; have feppf := blk_frozen epp; simp at fepp0 fepp1 fepp2; have kepp := blk_lt epp; have Eepp := Lib.hid epp; clear epp; have er : w2.heap[w1.heap.size]? = some (.cells #[.bool false, .slice none 0 0, .slice none 0 0] 24 (0, 0)) := blk_fit (w := w1.alloc (.cells #[.bool false, .slice none 0 0, .slice none 0 0] 24)) hb2 rfl (blk_new w1 (.cells #[.bool false, .slice none 0 0, .slice none 0 0] 24)); have fer0 := blk_cell er 0; have fer1 := blk_cell er 1; have fer2 := blk_cell er 2; have ferf := blk_frozen er; simp at fer0 fer1 fer2; have ker := blk_lt er; have Eer := Lib.hid er; clear er) | (have epp : w2.heap[W.heap.size]? = some (.cells #[.bool false, .slice none 0 0, .slice none 0 0] 24 (0, 0)) := blk_fit (w := w1) hb2 rfl Eep.out; have fepp0 := blk_cell epp 0; have fepp1 := blk_cell epp 1; have fepp2 := blk_cell epp 2; have feppf := blk_frozen epp; simp at fepp0 fepp1 fepp2; have kepp := blk_lt epp; have Eepp := Lib.hid epp; clear epp) | (have er : w2.heap[w1.heap.size]? = some (.cells #[.bool false, .slice none 0 0, .slice none 0 0] 24 (0, 0)) := blk_fit (w := (w1.alloc (.cells #[.bool false, .slice none 0 0, .slice none 0 0] 24)).alloc (.cells #[.bool false, .slice none 0 0, .slice none 0 0] 24)) hb2 rfl (blk_alloc (blk_new w1 (.cells #[.bool false, .slice none 0 0, .slice none 0 0] 24)) (.cells #[.bool false, .slice none 0 0, .slice none 0 0] 24)); have fer0 := blk_cell er 0; have fer1 := blk_cell er 1; have fer2 := blk_cell er 2; have ferf := blk_frozen er; simp at fer0 fer1 fer2; have ker := blk_lt er; have Eer := Lib.hid er; clear er; have et : w2.heap[w1.heap.size + 1]? = some (.cells #[.bool false, .slice none 0 0, .slice none 0 0] 24 (0, 0)) := blk_fit (w := (w1.alloc (.cells #[.bool false, .slice none 0 0, .slice none 0 0] 24)).alloc (.cells #[.bool false, .slice none 0 0, .slice none 0 0] 24)) hb2 rfl (blk_new' (w := w1.alloc (.cells #[.bool false, .slice none 0 0, .slice none 0 0] 24)) (g := w1.heap.size + 1) (alloc_size w1 (.cells #[.bool false, .slice none 0 0, .slice none 0 0] 24)).symm (.cells #[.bool false, .slice none 0 0, .slice none 0 0] 24)); have fet0 := blk_cell et 0; have fet1 := blk_cell et 1; have fet2 := blk_cell et 2; have fetf := blk_frozen et; simp at fet0 fet1 fet2; have ket := blk_lt et; have Eet := Lib.hid et; clear et) | (have er : w2.heap[w1.heap.size]? = some (.cells #[.bool false, .slice none 0 0, .slice none 0 0] 24 (0, 0)) := blk_fit (w := w1.alloc (.cells #[.bool false, .slice none 0 0, .slice none 0 0] 24)) hb2 rfl (blk_new w1 (.cells #[.bool false, .slice none 0 0, .slice none 0 0] 24)); have fer0 := blk_cell er 0; have fer1 := blk_cell er 1; have fer2 := blk_cell er 2; have ferf := blk_frozen er; simp at fer0 fer1 fer2; have ker := blk_lt er; have Eer := Lib.hid er; clear er) | skip); have k2 : W.heap.size ≤ w2.heap.size := (by { have h9 := hb2.size; first | exact Nat.le_trans k1 h9 | (simp at h9; omega) | omega }); have HN6 := Lib.hid (hn6.mono (ok' := fun b => _ ∧ b < w2.heap.size) (fun b hl hk => ⟨hk, hl⟩)); have HD6 := Lib.hid (hd6.mono (ok' := fun b => _ ∧ b < w2.heap.size) (fun b hl hk => ⟨hk, hl⟩)); clear hn6 hd6))
    all_goals (go_wp2; go_meet)
    all_goals (go_light; refine ⟨_, _, rfl, rfl, ?_, ?_, ?_, ?_⟩)
    all_goals first
      | (focus (refine ⟨?_, ?_⟩ <;> (first | with_reducible exact Nat.le_refl _ | with_reducible assumption | omega)))
      | (apply Var.mk
         · repeat (first
          | (with_reducible exact blk_new _ _)
          | (with_reducible exact Eep.out) | (with_reducible exact Eeq.out) | (with_reducible exact Eepp.out) | (with_reducible exact Eeqq.out) | (with_reducible exact Eer.out) | (with_reducible exact Eet.out)
          | (focus ((with_reducible refine blk_new' ?_ _); (focus (simp; done))))
          | (with_reducible refine blk_alloc ?_ _) | (with_reducible refine blk_drew ?_) | (with_reducible apply blk_set3)
          | (focus ((with_reducible refine blk_far ?_ ?_ _); rotate_left; (focus (dsimp only; have h1 := hb1.size; have h2 := hb2.size; (try simp only [alloc_size, drew_size, set_size] at h1 h2); omega)))))
         · first
             | (focus ((refine rdf_as HN5.out ?_; intro h8; repeat (first
          | (with_reducible exact h8) | (with_reducible refine rdf_alloc ?_ _) | (with_reducible refine rdf_drew ?_)
          | (focus ((with_reducible refine Rdf.set ?_ ?_ _); rotate_left; (focus (dsimp only; intro h9; have h1 := hb1.size; have h2 := hb2.size; (try simp only [alloc_size, drew_size, set_size] at h1 h2); (try simp only [alloc_size, drew_size, set_size] at h9); omega))))
          | (focus ((with_reducible apply Rdf.below); rotate_left; with_reducible assumption)))); done))
             | (focus ((refine rdf_as HN6.out ?_; intro h8; repeat (first
          | (with_reducible exact h8) | (with_reducible refine rdf_alloc ?_ _) | (with_reducible refine rdf_drew ?_)
          | (focus ((with_reducible refine Rdf.set ?_ ?_ _); rotate_left; (focus (dsimp only; intro h9; have h1 := hb1.size; have h2 := hb2.size; (try simp only [alloc_size, drew_size, set_size] at h1 h2); (try simp only [alloc_size, drew_size, set_size] at h9); omega))))
          | (focus ((with_reducible apply Rdf.below); rotate_left; with_reducible assumption)))); done))
         · first
             | (focus ((refine rdf_as HD5.out ?_; intro h8; repeat (first
          | (with_reducible exact h8) | (with_reducible refine rdf_alloc ?_ _) | (with_reducible refine rdf_drew ?_)
          | (focus ((with_reducible refine Rdf.set ?_ ?_ _); rotate_left; (focus (dsimp only; intro h9; have h1 := hb1.size; have h2 := hb2.size; (try simp only [alloc_size, drew_size, set_size] at h1 h2); (try simp only [alloc_size, drew_size, set_size] at h9); omega))))
          | (focus ((with_reducible apply Rdf.below); rotate_left; with_reducible assumption)))); done))
             | (focus ((refine rdf_as HD6.out ?_; intro h8; repeat (first
          | (with_reducible exact h8) | (with_reducible refine rdf_alloc ?_ _) | (with_reducible refine rdf_drew ?_)
          | (focus ((with_reducible refine Rdf.set ?_ ?_ _); rotate_left; (focus (dsimp only; intro h9; have h1 := hb1.size; have h2 := hb2.size; (try simp only [alloc_size, drew_size, set_size] at h1 h2); (try simp only [alloc_size, drew_size, set_size] at h9); omega))))
          | (focus ((with_reducible apply Rdf.below); rotate_left; with_reducible assumption)))); done)))
      | (focus ((repeat (first | (with_reducible exact Below.refl _ _) | (with_reducible refine bl_alloc ?_ _) | (with_reducible refine bl_drew ?_) | (focus ((with_reducible refine bl_set ?_ ?_ _); rotate_left; (first | with_reducible exact Nat.le_refl _ | with_reducible assumption | (with_reducible refine Nat.le_succ_of_le ?_; (first | with_reducible exact Nat.le_refl _ | with_reducible assumption))))) | (focus ((with_reducible apply bl_call'); with_reducible assumption)))); done))
      | fail
  case rest =>
    obtain ⟨g5, g6, rfl, rfl, ⟨n5, d5, e5, hn5, hd5⟩, ⟨n6, d6, e6, hn6, hd6⟩, ⟨hg5, hg6⟩, hbw⟩ := hcut
    have b3 := blk_below B3.out hbw
    have HBC := Lib.hid (bl_call HBW.out hbw)
    have d5' : g5 ≠ w.heap.size + 1 + 1 := by have := HSZ.out; omega
    have d6' : g6 ≠ w.heap.size + 1 + 1 := by have := HSZ.out; omega
    clear HK RR SS HSZ HR HS hbw HBW B3 hg5 hg6
    obtain ⟨l1, l2⟩ := raw_len gr
    obtain ⟨l3, l4⟩ := raw_len gs
    obtain ⟨X, hX⟩ : ∃ X, X = qv r := ⟨_, rfl⟩
    obtain ⟨Y, hY⟩ : ∃ X, X = qv s := ⟨_, rfl⟩
    rw [← hX] at e5 hn5 hd5 l1 l2
    rw [← hY] at e6 hn6 hd6 l3 l4
    have Q1 := Lib.hid (show (limbs X.num.natAbs).length ≤ 1000001 from l1)
    have Q2 := Lib.hid (show (limbs X.den).length ≤ 1000001 from l2)
    have Q3 := Lib.hid (show (limbs Y.num.natAbs).length ≤ 1000001 from l3)
    have Q4 := Lib.hid (show (limbs Y.den).length ≤ 1000001 from l4)
    obtain ⟨nx, hnx⟩ : ∃ n, n = (raw X).neg := ⟨_, rfl⟩
    obtain ⟨ny, hny⟩ : ∃ n, n = (raw Y).neg := ⟨_, rfl⟩
    rw [← hnx] at e5
    rw [← hny] at e6
    obtain ⟨p, hp⟩ : ∃ p, p = X.num.natAbs * Y.den := ⟨_, rfl⟩
    obtain ⟨q, hq⟩ : ∃ p, p = Y.num.natAbs * X.den := ⟨_, rfl⟩
    obtain ⟨dn, hdn⟩ : ∃ p, p = X.den * Y.den := ⟨_, rfl⟩
    have HE := Lib.hid (show mkRat (sg nx p + sg ny q) dn = qv r + qv s by rw [hnx, hny, hp, hq, hdn, ← hX, ← hY]; exact rat_add X Y)
    have ML := Lib.hid (show (limbs p).length ≤ 2000002 ∧ (limbs q).length ≤ 2000002 ∧ (limbs dn).length ≤ 2000002 ∧ dn ≠ 0 by
      rw [hp, hq, hdn]
      exact ⟨by have := limbs_len_mul X.num.natAbs Y.den; have := Q1.out; have := Q4.out; omega, by have := limbs_len_mul Y.num.natAbs X.den; have := Q3.out; have := Q2.out; omega, by have := limbs_len_mul X.den Y.den; have := Q2.out; have := Q4.out; omega, Nat.mul_ne_zero X.den_nz Y.den_nz⟩)
    have P1 := Lib.hid hn5
    have P2 := Lib.hid hd5
    have P3 := Lib.hid hn6
    have P4 := Lib.hid hd6
    obtain ⟨A5, c5, rfl, _, _⟩ := hn5
    obtain ⟨A6, c6, rfl, _, _⟩ := hd5
    obtain ⟨A7, c7, rfl, _, _⟩ := hn6
    obtain ⟨A8, c8, rfl, _, _⟩ := hd6
    obtain ⟨k5, hk5⟩ : ∃ k, k = (raw X).num.length := ⟨_, rfl⟩
    obtain ⟨k6, hk6⟩ : ∃ k, k = (raw X).den.length := ⟨_, rfl⟩
    obtain ⟨k7, hk7⟩ : ∃ k, k = (raw Y).num.length := ⟨_, rfl⟩
    obtain ⟨k8, hk8⟩ : ∃ k, k = (raw Y).den.length := ⟨_, rfl⟩
    rw [← hk5] at P1 e5
    rw [← hk6] at P2 e5
    rw [← hk7] at P3 e6
    rw [← hk8] at P4 e6
    have HB3 := Lib.hid b3
    have HE5 := Lib.hid e5
    have HE6 := Lib.hid e6
    have hsz : w.heap.size + 1 + 1 < wc.heap.size := blk_lt b3
    have M1 := Lib.hid (fun (W2 : World) (hb : Below wc.heap.size wc W2) => mul_nat (fun _ => True) (.slice A5 k5 c5) (.slice A8 k8 c8) X.num.natAbs Y.den W2 (fun _ _ => trivial) (P1.out.below hb) (P4.out.below hb) (by have := Q1.out; omega) (by have := Q4.out; omega))
    have M2 := Lib.hid (fun (W2 : World) (hb : Below wc.heap.size wc W2) => mul_nat (fun _ => True) (.slice A7 k7 c7) (.slice A6 k6 c6) Y.num.natAbs X.den W2 (fun _ _ => trivial) (P3.out.below hb) (P2.out.below hb) (by have := Q3.out; omega) (by have := Q2.out; omega))
    have M3 := Lib.hid (fun (W2 : World) (hb : Below wc.heap.size wc W2) => mul_nat (fun _ => True) (.slice A6 k6 c6) (.slice A8 k8 c8) X.den Y.den W2 (fun _ _ => trivial) (P2.out.below hb) (P4.out.below hb) (by have := Q2.out; omega) (by have := Q4.out; omega))
    rw [← hp] at M1
    rw [← hq] at M2
    rw [← hdn] at M3
    clear hk5 hk6 hk7 hk8 hX hY hnx hny hp hq hdn l1 l2 l3 l4 gr gs e5 e6
    have HK2 := Lib.hid (show ∀ w', Below wc.heap.size wc w' → (w'.cell? ⟨g5, 0, none⟩ = some (.bool nx) ∧ w'.cell? ⟨g5, 1, none⟩ = some (.slice A5 k5 c5) ∧ w'.cell? ⟨g5, 2, none⟩ = some (.slice A6 k6 c6) ∧ w'.cell? ⟨g6, 0, none⟩ = some (.bool ny) ∧ w'.cell? ⟨g6, 1, none⟩ = some (.slice A7 k7 c7) ∧ w'.cell? ⟨g6, 2, none⟩ = some (.slice A8 k8 c8)) from fun w' hb =>
      ⟨blk_cell (blk_below HE5.out hb) 0, blk_cell (blk_below HE5.out hb) 1, blk_cell (blk_below HE5.out hb) 2, blk_cell (blk_below HE6.out hb) 0, blk_cell (blk_below HE6.out hb) 1, blk_cell (blk_below HE6.out hb) 2⟩)
    clear b3
    go_upto_region 2 with (fail)
    go_cut [7, 8, 9] (fun v7 v8 v9 w2 => Rd .u32 w2 v7 (limbs p) ∧ Rd .u32 w2 v8 (limbs q) ∧ Rd .u32 w2 v9 (limbs dn) ∧ Below wc.heap.size wc w2)
    case first =>
      go_region_held3 (fun w' => w'.cell? ⟨g5, 0, none⟩ = some (.bool nx) ∧ w'.cell? ⟨g5, 1, none⟩ = some (.slice A5 k5 c5) ∧ w'.cell? ⟨g5, 2, none⟩ = some (.slice A6 k6 c6) ∧ w'.cell? ⟨g6, 0, none⟩ = some (.bool ny) ∧ w'.cell? ⟨g6, 1, none⟩ = some (.slice A7 k7 c7) ∧ w'.cell? ⟨g6, 2, none⟩ = some (.slice A8 k8 c8))
        (first
          | (focus (refine HK2.out _ ?_; (repeat (first | (with_reducible exact Below.refl _ _) | (with_reducible refine bl_alloc ?_ _) | (with_reducible refine bl_drew ?_) | (focus ((with_reducible refine bl_set ?_ ?_ _); rotate_left; (first | with_reducible exact Nat.le_refl _ | with_reducible assumption | (with_reducible refine Nat.le_succ_of_le ?_; (first | with_reducible exact Nat.le_refl _ | with_reducible assumption))))) | (focus ((with_reducible apply bl_call'); with_reducible assumption)))); done))
          | go_keep)
        (first
          | (go_at_call_of 58 (Value.slice A5 k5 c5); refine (M1.out _ ?_).mono ?_; (repeat (first | (with_reducible exact Below.refl _ _) | (with_reducible refine bl_alloc ?_ _) | (with_reducible refine bl_drew ?_) | (focus ((with_reducible refine bl_set ?_ ?_ _); rotate_left; (first | with_reducible exact Nat.le_refl _ | with_reducible assumption | (with_reducible refine Nat.le_succ_of_le ?_; (first | with_reducible exact Nat.le_refl _ | with_reducible assumption))))) | (focus ((with_reducible apply bl_call'); with_reducible assumption)))); rintro e v1 ⟨r1, rfl, hr1, hv1⟩; have HR1 := Lib.hid hr1.now; obtain ⟨A9, c9, rfl, _, _⟩ := hr1.len; clear hr1)
          | (go_at_call_of 58 (Value.slice A7 k7 c7); refine (M2.out _ ?_).mono ?_; (repeat (first | (with_reducible exact Below.refl _ _) | (with_reducible refine bl_alloc ?_ _) | (with_reducible refine bl_drew ?_) | (focus ((with_reducible refine bl_set ?_ ?_ _); rotate_left; (first | with_reducible exact Nat.le_refl _ | with_reducible assumption | (with_reducible refine Nat.le_succ_of_le ?_; (first | with_reducible exact Nat.le_refl _ | with_reducible assumption))))) | (focus ((with_reducible apply bl_call'); with_reducible assumption)))); rintro e v2 ⟨r2, rfl, hr2, hv2⟩; have HR2 := Lib.hid hr2.now; obtain ⟨A10, c10, rfl, _, _⟩ := hr2.len; clear hr2)
          | (go_at_call 58; refine (M3.out _ ?_).mono ?_; (repeat (first | (with_reducible exact Below.refl _ _) | (with_reducible refine bl_alloc ?_ _) | (with_reducible refine bl_drew ?_) | (focus ((with_reducible refine bl_set ?_ ?_ _); rotate_left; (first | with_reducible exact Nat.le_refl _ | with_reducible assumption | (with_reducible refine Nat.le_succ_of_le ?_; (first | with_reducible exact Nat.le_refl _ | with_reducible assumption))))) | (focus ((with_reducible apply bl_call'); with_reducible assumption)))); rintro e v3 ⟨r3, rfl, hr3, hv3⟩; have HR3 := Lib.hid hr3.now; obtain ⟨A11, c11, rfl, _, _⟩ := hr3.len; clear hr3))
      all_goals (go_wp2; go_meet)
      all_goals (go_light; refine ⟨?_, ?_, ?_, ?_⟩)
      all_goals first
        | (focus (refine Rd.below HR1.out ?_; (repeat (first | (with_reducible exact Below.refl _ _) | (with_reducible refine bl_alloc ?_ _) | (with_reducible refine bl_drew ?_) | (focus ((with_reducible refine bl_set ?_ ?_ _); rotate_left; (first | with_reducible exact Nat.le_refl _ | with_reducible assumption | (with_reducible refine Nat.le_succ_of_le ?_; (first | with_reducible exact Nat.le_refl _ | with_reducible assumption))))) | (focus ((with_reducible apply bl_call'); with_reducible assumption)))); done))
        | (focus (refine Rd.below HR2.out ?_; (repeat (first | (with_reducible exact Below.refl _ _) | (with_reducible refine bl_alloc ?_ _) | (with_reducible refine bl_drew ?_) | (focus ((with_reducible refine bl_set ?_ ?_ _); rotate_left; (first | with_reducible exact Nat.le_refl _ | with_reducible assumption | (with_reducible refine Nat.le_succ_of_le ?_; (first | with_reducible exact Nat.le_refl _ | with_reducible assumption))))) | (focus ((with_reducible apply bl_call'); with_reducible assumption)))); done))
        | (focus (refine Rd.below HR3.out ?_; (repeat (first | (with_reducible exact Below.refl _ _) | (with_reducible refine bl_alloc ?_ _) | (with_reducible refine bl_drew ?_) | (focus ((with_reducible refine bl_set ?_ ?_ _); rotate_left; (first | with_reducible exact Nat.le_refl _ | with_reducible assumption | (with_reducible refine Nat.le_succ_of_le ?_; (first | with_reducible exact Nat.le_refl _ | with_reducible assumption))))) | (focus ((with_reducible apply bl_call'); with_reducible assumption)))); done))
        | (focus ((repeat (first | (with_reducible exact Below.refl _ _) | (with_reducible refine bl_alloc ?_ _) | (with_reducible refine bl_drew ?_) | (focus ((with_reducible refine bl_set ?_ ?_ _); rotate_left; (first | with_reducible exact Nat.le_refl _ | with_reducible assumption | (with_reducible refine Nat.le_succ_of_le ?_; (first | with_reducible exact Nat.le_refl _ | with_reducible assumption))))) | (focus ((with_reducible apply bl_call'); with_reducible assumption)))); done))
        | fail
    case rest =>
      obtain ⟨hp7, hp8, hp9, hb2⟩ := hcut
      have PP := Lib.hid hp7
      have PQ := Lib.hid hp8
      have PD := Lib.hid hp9
      have KB := Lib.hid hb2
      obtain ⟨w3, h3⟩ : ∃ w3, w3 = wc := ⟨_, rfl⟩
      subst h3
      obtain ⟨A9, c9, rfl, _, _⟩ := hp7
      obtain ⟨A10, c10, rfl, _, _⟩ := hp8
      obtain ⟨A11, c11, rfl, _, _⟩ := hp9
      clear hb2
      have HBC3 := Lib.hid (bl_call HBC.out KB.out)
      have HE53 := Lib.hid (blk_below HE5.out KB.out)
      have HE63 := Lib.hid (blk_below HE6.out KB.out)
      have HB33 := Lib.hid (blk_below HB3.out KB.out)
      have hsz3 := blk_lt HB33.out
      obtain ⟨k9, hk9⟩ : ∃ k, k = (limbs p).length := ⟨_, rfl⟩
      obtain ⟨k10, hk10⟩ : ∃ k, k = (limbs q).length := ⟨_, rfl⟩
      obtain ⟨k11, hk11⟩ : ∃ k, k = (limbs dn).length := ⟨_, rfl⟩
      rw [← hk9] at PP ⊢
      rw [← hk10] at PQ ⊢
      rw [← hk11] at PD ⊢
      clear hk9 hk10 hk11 M1 M2 M3 HK2 Q1 Q2 Q3 Q4 hsz HBC HE5 HE6 HB3 KB P1 P2 P3 P4
      have HK := Lib.hid (show ∀ w', Below w3.heap.size w3 w' → (w'.cell? ⟨g5, 0, none⟩ = some (.bool nx) ∧ w'.cell? ⟨g6, 0, none⟩ = some (.bool ny)) from fun w' hb =>
        ⟨blk_cell (blk_below HE53.out hb) 0, blk_cell (blk_below HE63.out hb) 0⟩)
      have HK3 := Lib.hid (show ∀ w', Below w3.heap.size w3 w' → ∀ a b c : Value, ((((w'.setCell ⟨w.heap.size + 1 + 1, 0, none⟩ a).setCell ⟨w.heap.size + 1 + 1, 1, none⟩ b).setCell ⟨w.heap.size + 1 + 1, 2, none⟩ c).cell? ⟨g5, 0, none⟩ = some (.bool nx)) ∧ ((((w'.setCell ⟨w.heap.size + 1 + 1, 0, none⟩ a).setCell ⟨w.heap.size + 1 + 1, 1, none⟩ b).setCell ⟨w.heap.size + 1 + 1, 2, none⟩ c).cell? ⟨g6, 0, none⟩ = some (.bool ny)) from fun w' hb a b c =>
        ⟨blk_cell (blk_far (blk_far (blk_far (blk_below HE53.out hb) d5' _) d5' _) d5' _) 0, blk_cell (blk_far (blk_far (blk_far (blk_below HE63.out hb) d6' _) d6' _) d6' _) 0⟩)
      have hF := Lib.hid (show ∀ (neg : Bool) (W : World) v u (a : Nat), Below w3.heap.size w3 W → Rd .u32 W v (limbs a) → Rd .u32 W u (limbs dn) → (limbs a).length ≤ 2000003 → Calls Try.prog 57 #[.bool neg, v, u] W fun e w' => ∃ z, e = .returned z ∧ RdRaw w' (fun x => ok x ∧ x ≠ w.heap.size + 1 + 1) z (raw (mkRat (sg neg a) dn)) ∧ Below W.heap.size W w' from fun neg W v u a hb h1 h2 h3 =>
        made_any (fun x => ok x ∧ x ≠ w.heap.size + 1 + 1) neg v u a dn W (fun b h => ⟨HOK.out b (by have := HBC3.out.size; have := hb.size; omega), by have := hb.size; omega⟩) h1 h2 ML.out.2.2.2 (by omega) (by have := ML.out.2.2.1; omega))
      have y0 := blk_cell HE53.out 0
      have y1 := blk_cell HE63.out 0
      simp at y0 y1
      clear d5' d6'
      by_cases hxy : nx = ny
      · subst hxy
        have HLN := Lib.hid (show (limbs (p + q)).length ≤ 2000003 from limbs_len_add p q 2000002 ML.out.1 ML.out.2.1)
        have t1 : (nx == nx) = true := by simp
        have HQ := Lib.hid (show mkRat (sg nx (p + q)) dn = qv r + qv s from by rw [← HE.out]; congr 1; exact sg_same nx p q)
        go_upto_region 4 with (fail)
        go_region_held3 (fun w' => w'.cell? ⟨g5, 0, none⟩ = some (.bool nx) ∧ w'.cell? ⟨g6, 0, none⟩ = some (.bool nx))
          (first
            | (focus (refine HK.out _ ?_; (repeat (first | (with_reducible exact Below.refl _ _) | (with_reducible refine bl_alloc ?_ _) | (with_reducible refine bl_drew ?_) | (focus ((with_reducible refine bl_set ?_ ?_ _); rotate_left; (first | with_reducible exact Nat.le_refl _ | with_reducible assumption | (with_reducible refine Nat.le_succ_of_le ?_; (first | with_reducible exact Nat.le_refl _ | with_reducible assumption))))) | (focus ((with_reducible apply bl_call'); with_reducible assumption)))); done))
            | (focus (refine HK3.out _ ?_ _ _ _; (repeat (first | (with_reducible exact Below.refl _ _) | (with_reducible refine bl_alloc ?_ _) | (with_reducible refine bl_drew ?_) | (focus ((with_reducible refine bl_set ?_ ?_ _); rotate_left; (first | with_reducible exact Nat.le_refl _ | with_reducible assumption | (with_reducible refine Nat.le_succ_of_le ?_; (first | with_reducible exact Nat.le_refl _ | with_reducible assumption))))) | (focus ((with_reducible apply bl_call'); with_reducible assumption)))); done))
            | go_keep)
          (first
            | (go_at_call 69; refine (add_nat (fun _ => True) _ _ p q _ (fun _ _ => trivial) ?_ ?_ (by have := ML.out.1; omega) (by have := ML.out.2.1; omega)).mono ?_; (focus (refine Rd.below PP.out ?_; (repeat (first | (with_reducible exact Below.refl _ _) | (with_reducible refine bl_alloc ?_ _) | (with_reducible refine bl_drew ?_) | (focus ((with_reducible refine bl_set ?_ ?_ _); rotate_left; (first | with_reducible exact Nat.le_refl _ | with_reducible assumption | (with_reducible refine Nat.le_succ_of_le ?_; (first | with_reducible exact Nat.le_refl _ | with_reducible assumption))))) | (focus ((with_reducible apply bl_call'); with_reducible assumption)))); done)); (focus (refine Rd.below PQ.out ?_; (repeat (first | (with_reducible exact Below.refl _ _) | (with_reducible refine bl_alloc ?_ _) | (with_reducible refine bl_drew ?_) | (focus ((with_reducible refine bl_set ?_ ?_ _); rotate_left; (first | with_reducible exact Nat.le_refl _ | with_reducible assumption | (with_reducible refine Nat.le_succ_of_le ?_; (first | with_reducible exact Nat.le_refl _ | with_reducible assumption))))) | (focus ((with_reducible apply bl_call'); with_reducible assumption)))); done)); rintro e v1 ⟨r1, rfl, hr1, hv1⟩; have HR1 := Lib.hid hr1.now; obtain ⟨A19, c19, rfl, _, _⟩ := hr1.len; clear hr1)
            | (go_at_call 57; refine (hF.out nx _ _ _ (p + q) ?_ ?_ ?_ HLN.out).mono ?_; (focus ((repeat (first | (with_reducible exact Below.refl _ _) | (with_reducible refine bl_alloc ?_ _) | (with_reducible refine bl_drew ?_) | (focus ((with_reducible refine bl_set ?_ ?_ _); rotate_left; (first | with_reducible exact Nat.le_refl _ | with_reducible assumption | (with_reducible refine Nat.le_succ_of_le ?_; (first | with_reducible exact Nat.le_refl _ | with_reducible assumption))))) | (focus ((with_reducible apply bl_call'); with_reducible assumption)))); done)); (focus (refine Rd.below HR1.out ?_; (repeat (first | (with_reducible exact Below.refl _ _) | (with_reducible refine bl_alloc ?_ _) | (with_reducible refine bl_drew ?_) | (focus ((with_reducible refine bl_set ?_ ?_ _); rotate_left; (first | with_reducible exact Nat.le_refl _ | with_reducible assumption | (with_reducible refine Nat.le_succ_of_le ?_; (first | with_reducible exact Nat.le_refl _ | with_reducible assumption))))) | (focus ((with_reducible apply bl_call'); with_reducible assumption)))); done)); (focus (refine Rd.below PD.out ?_; (repeat (first | (with_reducible exact Below.refl _ _) | (with_reducible refine bl_alloc ?_ _) | (with_reducible refine bl_drew ?_) | (focus ((with_reducible refine bl_set ?_ ?_ _); rotate_left; (first | with_reducible exact Nat.le_refl _ | with_reducible assumption | (with_reducible refine Nat.le_succ_of_le ?_; (first | with_reducible exact Nat.le_refl _ | with_reducible assumption))))) | (focus ((with_reducible apply bl_call'); with_reducible assumption)))); done)); rw [HQ.out]; rintro e v3 ⟨r3, rfl, ⟨n3, d3, rfl, hn3, hd3⟩, hv3⟩; have HN3 := Lib.hid hn3; have HD3 := Lib.hid hd3; have HBV := Lib.hid (show Below w3.heap.size w3 v3 from by repeat (first | (with_reducible exact Below.refl _ _) | (with_reducible refine bl_alloc ?_ _) | (with_reducible refine bl_drew ?_) | (focus ((with_reducible refine bl_set ?_ ?_ _); rotate_left; (first | with_reducible exact Nat.le_refl _ | with_reducible assumption | (with_reducible refine Nat.le_succ_of_le ?_; (first | with_reducible exact Nat.le_refl _ | with_reducible assumption))))) | (focus ((with_reducible apply bl_call'); with_reducible assumption)))); have m0 := blk_cell (blk_below HB33.out HBV.out) 0; have m1 := blk_cell (blk_below HB33.out HBV.out) 1; have m2 := blk_cell (blk_below HB33.out HBV.out) 2; have mf := blk_frozen (blk_below HB33.out HBV.out); simp at m0 m1 m2; obtain ⟨A21, c21, rfl, l7, l8⟩ := hn3.len; obtain ⟨A22, c22, rfl, l9, l10⟩ := hd3.len; clear hn3 hd3))
        go_wp2_with fail
        refine bodyPost_ret (v := .agg #[.bool (raw (qv r + qv s)).neg, .slice A21 (raw (qv r + qv s)).num.length c21, .slice A22 (raw (qv r + qv s)).den.length c22]) (by simp [results, Try.results43, go_sem, m0, m1, m2]) rfl ⟨_, rfl, ?_, ?_⟩
        · refine ⟨_, _, rfl, ?_, ?_⟩
          · exact (((HN3.out.set (fun h => h.2 rfl) _).set (fun h => h.2 rfl) _).set (fun h => h.2 rfl) _).mono (fun b _ h => h.1)
          · exact (((HD3.out.set (fun h => h.2 rfl) _).set (fun h => h.2 rfl) _).set (fun h => h.2 rfl) _).mono (fun b _ h => h.1)
        · exact bl_set (bl_set (bl_set (bl_call HBC3.out HBV.out) (by simp <;> omega) _) (by simp <;> omega) _) (by simp <;> omega) _
      · have t1 : (nx == ny) = false := by simpa using hxy
        have HXY := Lib.hid hxy
        clear hxy
        go_wp2_with fail
        refine (cmp_any _ _ p q _ PP.out PQ.out).mono ?_
        by_cases hpq : q ≤ p
        · have hc := cmpZ_ge hpq
          have HPQ := Lib.hid hpq
          obtain ⟨cz, hcz⟩ : ∃ z, z = cmpZ (p : Int) q := ⟨_, rfl⟩
          rw [← hcz] at hc ⊢
          clear hcz hpq
          rintro e w4 ⟨rfl, hb4⟩
          obtain ⟨y2, y3⟩ := HK.out _ hb4
          have HLN := Lib.hid (show (limbs (p - q)).length ≤ 2000003 from Nat.le_trans (limbs_mono (Nat.sub_le p q)) (by have := ML.out.1; omega))
          have HQ := Lib.hid (show mkRat (sg nx (p - q)) dn = qv r + qv s from by rw [← HE.out]; congr 1; exact sg_ge HXY.out HPQ.out)
          go_upto_region 6 with (fail)
          go_region_held3 (fun w' => w'.cell? ⟨g5, 0, none⟩ = some (.bool nx) ∧ w'.cell? ⟨g6, 0, none⟩ = some (.bool ny))
            (first
              | (focus (refine HK.out _ ?_; (repeat (first | (with_reducible exact Below.refl _ _) | (with_reducible refine bl_alloc ?_ _) | (with_reducible refine bl_drew ?_) | (focus ((with_reducible refine bl_set ?_ ?_ _); rotate_left; (first | with_reducible exact Nat.le_refl _ | with_reducible assumption | (with_reducible refine Nat.le_succ_of_le ?_; (first | with_reducible exact Nat.le_refl _ | with_reducible assumption))))) | (focus ((with_reducible apply bl_call'); with_reducible assumption)))); done))
              | (focus (refine HK3.out _ ?_ _ _ _; (repeat (first | (with_reducible exact Below.refl _ _) | (with_reducible refine bl_alloc ?_ _) | (with_reducible refine bl_drew ?_) | (focus ((with_reducible refine bl_set ?_ ?_ _); rotate_left; (first | with_reducible exact Nat.le_refl _ | with_reducible assumption | (with_reducible refine Nat.le_succ_of_le ?_; (first | with_reducible exact Nat.le_refl _ | with_reducible assumption))))) | (focus ((with_reducible apply bl_call'); with_reducible assumption)))); done))
              | go_keep)
            (first
              | (go_at_call 73; refine (sub_nat (fun _ => True) _ _ p q _ (fun _ _ => trivial) ?_ ?_ (by have := ML.out.1; omega) HPQ.out).mono ?_; (focus (refine Rd.below PP.out ?_; (repeat (first | (with_reducible exact Below.refl _ _) | (with_reducible refine bl_alloc ?_ _) | (with_reducible refine bl_drew ?_) | (focus ((with_reducible refine bl_set ?_ ?_ _); rotate_left; (first | with_reducible exact Nat.le_refl _ | with_reducible assumption | (with_reducible refine Nat.le_succ_of_le ?_; (first | with_reducible exact Nat.le_refl _ | with_reducible assumption))))) | (focus ((with_reducible apply bl_call'); with_reducible assumption)))); done)); (focus (refine Rd.below PQ.out ?_; (repeat (first | (with_reducible exact Below.refl _ _) | (with_reducible refine bl_alloc ?_ _) | (with_reducible refine bl_drew ?_) | (focus ((with_reducible refine bl_set ?_ ?_ _); rotate_left; (first | with_reducible exact Nat.le_refl _ | with_reducible assumption | (with_reducible refine Nat.le_succ_of_le ?_; (first | with_reducible exact Nat.le_refl _ | with_reducible assumption))))) | (focus ((with_reducible apply bl_call'); with_reducible assumption)))); done)); rintro e v1 ⟨r1, rfl, hr1, hv1⟩; have HR1 := Lib.hid hr1.now; obtain ⟨A19, c19, rfl, _, _⟩ := hr1.len; clear hr1)
              | (go_at_call 57; refine (hF.out nx _ _ _ (p - q) ?_ ?_ ?_ HLN.out).mono ?_; (focus ((repeat (first | (with_reducible exact Below.refl _ _) | (with_reducible refine bl_alloc ?_ _) | (with_reducible refine bl_drew ?_) | (focus ((with_reducible refine bl_set ?_ ?_ _); rotate_left; (first | with_reducible exact Nat.le_refl _ | with_reducible assumption | (with_reducible refine Nat.le_succ_of_le ?_; (first | with_reducible exact Nat.le_refl _ | with_reducible assumption))))) | (focus ((with_reducible apply bl_call'); with_reducible assumption)))); done)); (focus (refine Rd.below HR1.out ?_; (repeat (first | (with_reducible exact Below.refl _ _) | (with_reducible refine bl_alloc ?_ _) | (with_reducible refine bl_drew ?_) | (focus ((with_reducible refine bl_set ?_ ?_ _); rotate_left; (first | with_reducible exact Nat.le_refl _ | with_reducible assumption | (with_reducible refine Nat.le_succ_of_le ?_; (first | with_reducible exact Nat.le_refl _ | with_reducible assumption))))) | (focus ((with_reducible apply bl_call'); with_reducible assumption)))); done)); (focus (refine Rd.below PD.out ?_; (repeat (first | (with_reducible exact Below.refl _ _) | (with_reducible refine bl_alloc ?_ _) | (with_reducible refine bl_drew ?_) | (focus ((with_reducible refine bl_set ?_ ?_ _); rotate_left; (first | with_reducible exact Nat.le_refl _ | with_reducible assumption | (with_reducible refine Nat.le_succ_of_le ?_; (first | with_reducible exact Nat.le_refl _ | with_reducible assumption))))) | (focus ((with_reducible apply bl_call'); with_reducible assumption)))); done)); rw [HQ.out]; rintro e v3 ⟨r3, rfl, ⟨n3, d3, rfl, hn3, hd3⟩, hv3⟩; have HN3 := Lib.hid hn3; have HD3 := Lib.hid hd3; have HBV := Lib.hid (show Below w3.heap.size w3 v3 from by repeat (first | (with_reducible exact Below.refl _ _) | (with_reducible refine bl_alloc ?_ _) | (with_reducible refine bl_drew ?_) | (focus ((with_reducible refine bl_set ?_ ?_ _); rotate_left; (first | with_reducible exact Nat.le_refl _ | with_reducible assumption | (with_reducible refine Nat.le_succ_of_le ?_; (first | with_reducible exact Nat.le_refl _ | with_reducible assumption))))) | (focus ((with_reducible apply bl_call'); with_reducible assumption)))); have m0 := blk_cell (blk_below HB33.out HBV.out) 0; have m1 := blk_cell (blk_below HB33.out HBV.out) 1; have m2 := blk_cell (blk_below HB33.out HBV.out) 2; have mf := blk_frozen (blk_below HB33.out HBV.out); simp at m0 m1 m2; obtain ⟨A21, c21, rfl, l7, l8⟩ := hn3.len; obtain ⟨A22, c22, rfl, l9, l10⟩ := hd3.len; clear hn3 hd3))
          go_wp2_with fail
          refine bodyPost_ret (v := .agg #[.bool (raw (qv r + qv s)).neg, .slice A21 (raw (qv r + qv s)).num.length c21, .slice A22 (raw (qv r + qv s)).den.length c22]) (by simp [results, Try.results43, go_sem, m0, m1, m2]) rfl ⟨_, rfl, ?_, ?_⟩
          · refine ⟨_, _, rfl, ?_, ?_⟩
            · exact (((HN3.out.set (fun h => h.2 rfl) _).set (fun h => h.2 rfl) _).set (fun h => h.2 rfl) _).mono (fun b _ h => h.1)
            · exact (((HD3.out.set (fun h => h.2 rfl) _).set (fun h => h.2 rfl) _).set (fun h => h.2 rfl) _).mono (fun b _ h => h.1)
          · exact bl_set (bl_set (bl_set (bl_call HBC3.out HBV.out) (by simp <;> omega) _) (by simp <;> omega) _) (by simp <;> omega) _
        · have hpq' : p < q := by omega
          have hc := cmpZ_lt hpq'
          have HPQ := Lib.hid (show p ≤ q by omega)
          obtain ⟨cz, hcz⟩ : ∃ z, z = cmpZ (p : Int) q := ⟨_, rfl⟩
          rw [← hcz] at hc ⊢
          clear hcz hpq hpq'
          rintro e w4 ⟨rfl, hb4⟩
          obtain ⟨y2, y3⟩ := HK.out _ hb4
          have HLN := Lib.hid (show (limbs (q - p)).length ≤ 2000003 from Nat.le_trans (limbs_mono (Nat.sub_le q p)) (by have := ML.out.2.1; omega))
          have HQ := Lib.hid (show mkRat (sg ny (q - p)) dn = qv r + qv s from by rw [← HE.out]; congr 1; exact sg_le HXY.out HPQ.out)
          go_upto_region 7 with (fail)
          go_region_held3 (fun w' => w'.cell? ⟨g5, 0, none⟩ = some (.bool nx) ∧ w'.cell? ⟨g6, 0, none⟩ = some (.bool ny))
            (first
              | (focus (refine HK.out _ ?_; (repeat (first | (with_reducible exact Below.refl _ _) | (with_reducible refine bl_alloc ?_ _) | (with_reducible refine bl_drew ?_) | (focus ((with_reducible refine bl_set ?_ ?_ _); rotate_left; (first | with_reducible exact Nat.le_refl _ | with_reducible assumption | (with_reducible refine Nat.le_succ_of_le ?_; (first | with_reducible exact Nat.le_refl _ | with_reducible assumption))))) | (focus ((with_reducible apply bl_call'); with_reducible assumption)))); done))
              | (focus (refine HK3.out _ ?_ _ _ _; (repeat (first | (with_reducible exact Below.refl _ _) | (with_reducible refine bl_alloc ?_ _) | (with_reducible refine bl_drew ?_) | (focus ((with_reducible refine bl_set ?_ ?_ _); rotate_left; (first | with_reducible exact Nat.le_refl _ | with_reducible assumption | (with_reducible refine Nat.le_succ_of_le ?_; (first | with_reducible exact Nat.le_refl _ | with_reducible assumption))))) | (focus ((with_reducible apply bl_call'); with_reducible assumption)))); done))
              | go_keep)
            (first
              | (go_at_call 73; refine (sub_nat (fun _ => True) _ _ q p _ (fun _ _ => trivial) ?_ ?_ (by have := ML.out.2.1; omega) HPQ.out).mono ?_; (focus (refine Rd.below PQ.out ?_; (repeat (first | (with_reducible exact Below.refl _ _) | (with_reducible refine bl_alloc ?_ _) | (with_reducible refine bl_drew ?_) | (focus ((with_reducible refine bl_set ?_ ?_ _); rotate_left; (first | with_reducible exact Nat.le_refl _ | with_reducible assumption | (with_reducible refine Nat.le_succ_of_le ?_; (first | with_reducible exact Nat.le_refl _ | with_reducible assumption))))) | (focus ((with_reducible apply bl_call'); with_reducible assumption)))); done)); (focus (refine Rd.below PP.out ?_; (repeat (first | (with_reducible exact Below.refl _ _) | (with_reducible refine bl_alloc ?_ _) | (with_reducible refine bl_drew ?_) | (focus ((with_reducible refine bl_set ?_ ?_ _); rotate_left; (first | with_reducible exact Nat.le_refl _ | with_reducible assumption | (with_reducible refine Nat.le_succ_of_le ?_; (first | with_reducible exact Nat.le_refl _ | with_reducible assumption))))) | (focus ((with_reducible apply bl_call'); with_reducible assumption)))); done)); rintro e v1 ⟨r1, rfl, hr1, hv1⟩; have HR1 := Lib.hid hr1.now; obtain ⟨A19, c19, rfl, _, _⟩ := hr1.len; clear hr1)
              | (go_at_call 57; refine (hF.out ny _ _ _ (q - p) ?_ ?_ ?_ HLN.out).mono ?_; (focus ((repeat (first | (with_reducible exact Below.refl _ _) | (with_reducible refine bl_alloc ?_ _) | (with_reducible refine bl_drew ?_) | (focus ((with_reducible refine bl_set ?_ ?_ _); rotate_left; (first | with_reducible exact Nat.le_refl _ | with_reducible assumption | (with_reducible refine Nat.le_succ_of_le ?_; (first | with_reducible exact Nat.le_refl _ | with_reducible assumption))))) | (focus ((with_reducible apply bl_call'); with_reducible assumption)))); done)); (focus (refine Rd.below HR1.out ?_; (repeat (first | (with_reducible exact Below.refl _ _) | (with_reducible refine bl_alloc ?_ _) | (with_reducible refine bl_drew ?_) | (focus ((with_reducible refine bl_set ?_ ?_ _); rotate_left; (first | with_reducible exact Nat.le_refl _ | with_reducible assumption | (with_reducible refine Nat.le_succ_of_le ?_; (first | with_reducible exact Nat.le_refl _ | with_reducible assumption))))) | (focus ((with_reducible apply bl_call'); with_reducible assumption)))); done)); (focus (refine Rd.below PD.out ?_; (repeat (first | (with_reducible exact Below.refl _ _) | (with_reducible refine bl_alloc ?_ _) | (with_reducible refine bl_drew ?_) | (focus ((with_reducible refine bl_set ?_ ?_ _); rotate_left; (first | with_reducible exact Nat.le_refl _ | with_reducible assumption | (with_reducible refine Nat.le_succ_of_le ?_; (first | with_reducible exact Nat.le_refl _ | with_reducible assumption))))) | (focus ((with_reducible apply bl_call'); with_reducible assumption)))); done)); rw [HQ.out]; rintro e v3 ⟨r3, rfl, ⟨n3, d3, rfl, hn3, hd3⟩, hv3⟩; have HN3 := Lib.hid hn3; have HD3 := Lib.hid hd3; have HBV := Lib.hid (show Below w3.heap.size w3 v3 from by repeat (first | (with_reducible exact Below.refl _ _) | (with_reducible refine bl_alloc ?_ _) | (with_reducible refine bl_drew ?_) | (focus ((with_reducible refine bl_set ?_ ?_ _); rotate_left; (first | with_reducible exact Nat.le_refl _ | with_reducible assumption | (with_reducible refine Nat.le_succ_of_le ?_; (first | with_reducible exact Nat.le_refl _ | with_reducible assumption))))) | (focus ((with_reducible apply bl_call'); with_reducible assumption)))); have m0 := blk_cell (blk_below HB33.out HBV.out) 0; have m1 := blk_cell (blk_below HB33.out HBV.out) 1; have m2 := blk_cell (blk_below HB33.out HBV.out) 2; have mf := blk_frozen (blk_below HB33.out HBV.out); simp at m0 m1 m2; obtain ⟨A21, c21, rfl, l7, l8⟩ := hn3.len; obtain ⟨A22, c22, rfl, l9, l10⟩ := hd3.len; clear hn3 hd3))
          go_wp2_with fail
          refine bodyPost_ret (v := .agg #[.bool (raw (qv r + qv s)).neg, .slice A21 (raw (qv r + qv s)).num.length c21, .slice A22 (raw (qv r + qv s)).den.length c22]) (by simp [results, Try.results43, go_sem, m0, m1, m2]) rfl ⟨_, rfl, ?_, ?_⟩
          · refine ⟨_, _, rfl, ?_, ?_⟩
            · exact (((HN3.out.set (fun h => h.2 rfl) _).set (fun h => h.2 rfl) _).set (fun h => h.2 rfl) _).mono (fun b _ h => h.1)
            · exact (((HD3.out.set (fun h => h.2 rfl) _).set (fun h => h.2 rfl) _).set (fun h => h.2 rfl) _).mono (fun b _ h => h.1)
          · exact bl_set (bl_set (bl_set (bl_call HBC3.out HBV.out) (by simp <;> omega) _) (by simp <;> omega) _) (by simp <;> omega) _
end Go.Proofs.Ytikpdkgamcecjaa
