/- Walks: Sub and Cmp of both sides. -/
import Derived.Test.YtikpdkgamcecjaaS7
import Derived.Deep.RegionHeld3
namespace Go.Proofs.Ytikpdkgamcecjaa
open Go.RowKit
set_option linter.unusedSimpArgs false
set_option linter.unusedVariables false

theorem sub_qv (p q : Rat) : p + qv (raw (-q)) = p - q := by rw [qv_raw, Rat.sub_eq_add_neg]
set_option maxRecDepth 100000 in
set_option maxHeartbeats 4000000 in
theorem Sub_any (ok : Nat → Prop) (v u : Value) (r s : Raw) (w : World) (hok : ∀ b, w.heap.size ≤ b → ok b) (hr : RdR w v r) (hs : RdR w u s) (gr : Good 900000 r) (gs : Good 900000 s) :
    Calls Try.prog 45 #[v, u] w fun e w' => ∃ z, e = .returned z ∧ RdRaw w' ok z (raw (qv r - qv s)) ∧ Below w.heap.size w w' := by
  have HOK := Lib.hid hok
  clear hok
  have HR := Lib.hid hr
  have HS := Lib.hid hs
  have GR := Lib.hid gr
  have GS := Lib.hid gs
  have GN := Lib.hid (good_neg (good_qv gs))
  have HE := Lib.hid (sub_qv (qv r) (qv s))
  obtain ⟨n1, d1, rfl, hn1, hd1⟩ := hr
  obtain ⟨n2, d2, rfl, hn2, hd2⟩ := hs
  obtain ⟨A1, c1, rfl, _, _⟩ := hn1.len
  obtain ⟨A2, c2, rfl, _, _⟩ := hd1.len
  obtain ⟨A3, c3, rfl, _, _⟩ := hn2.len
  obtain ⟨A4, c4, rfl, _, _⟩ := hd2.len
  clear hn1 hd1 hn2 hd2 gr gs
  go_enter Try.func45, Try.ntmps45
  go_upto_region 1 with (fail)
  obtain ⟨W, hW⟩ : ∃ W, W = ((w.alloc (.cells #[.bool r.neg, .slice A1 r.num.length c1, .slice A2 r.den.length c2] 24)).alloc (.cells #[.bool s.neg, .slice A3 s.num.length c3, .slice A4 s.den.length c4] 24)).alloc (.cells #[.bool false, .slice none 0 0, .slice none 0 0] 24) := ⟨_, rfl⟩
  have b1 : W.heap[w.heap.size]? = some (.cells #[.bool r.neg, .slice A1 r.num.length c1, .slice A2 r.den.length c2] 24 (0, 0)) := by rw [hW]; exact blk_alloc (blk_alloc (blk_new _ _) _) _
  have b2 : W.heap[w.heap.size + 1]? = some (.cells #[.bool s.neg, .slice A3 s.num.length c3, .slice A4 s.den.length c4] 24 (0, 0)) := by rw [hW]; exact blk_alloc (blk_new' (by simp) _) _
  have b3 : W.heap[w.heap.size + 1 + 1]? = some (.cells #[.bool false, .slice none 0 0, .slice none 0 0] 24 (0, 0)) := by rw [hW]; exact blk_new' (by simp) _
  have HB1 := Lib.hid b1
  have HB2 := Lib.hid b2
  have HB3 := Lib.hid b3
  have HBW := Lib.hid (show Below w.heap.size w W by rw [hW]; exact bl_alloc (bl_alloc (bl_alloc (Below.refl _ _) _) _) _)
  have HSZ := Lib.hid (show W.heap.size = w.heap.size + 1 + 1 + 1 by rw [hW]; simp)
  rw [← hW]
  have RR := Lib.hid (fun (W2 : World) (h : Below W.heap.size W W2) => HR.out.below (bl_call HBW.out h))
  have SS := Lib.hid (fun (W2 : World) (h : Below W.heap.size W W2) => HS.out.below (bl_call HBW.out h))
  have HK := Lib.hid (show ∀ w', Below W.heap.size W w' → (w'.cell? ⟨w.heap.size, 0, none⟩ = some (.bool r.neg) ∧ w'.cell? ⟨w.heap.size, 1, none⟩ = some (.slice A1 r.num.length c1) ∧ w'.cell? ⟨w.heap.size, 2, none⟩ = some (.slice A2 r.den.length c2) ∧ w'.cell? ⟨w.heap.size + 1, 0, none⟩ = some (.bool s.neg) ∧ w'.cell? ⟨w.heap.size + 1, 1, none⟩ = some (.slice A3 s.num.length c3) ∧ w'.cell? ⟨w.heap.size + 1, 2, none⟩ = some (.slice A4 s.den.length c4)) from fun w' hb =>
    ⟨blk_cell (blk_below HB1.out hb) 0, blk_cell (blk_below HB1.out hb) 1, blk_cell (blk_below HB1.out hb) 2, blk_cell (blk_below HB2.out hb) 0, blk_cell (blk_below HB2.out hb) 1, blk_cell (blk_below HB2.out hb) 2⟩)
  have D1 : w.heap.size ≠ w.heap.size + 1 + 1 := by omega
  have D2 : w.heap.size + 1 ≠ w.heap.size + 1 + 1 := by omega
  have HK3 := Lib.hid (show ∀ w', Below W.heap.size W w' → ∀ a b c : Value, ((((w'.setCell ⟨w.heap.size + 1 + 1, 0, none⟩ a).setCell ⟨w.heap.size + 1 + 1, 1, none⟩ b).setCell ⟨w.heap.size + 1 + 1, 2, none⟩ c).cell? ⟨w.heap.size, 0, none⟩ = some (.bool r.neg) ∧ (((w'.setCell ⟨w.heap.size + 1 + 1, 0, none⟩ a).setCell ⟨w.heap.size + 1 + 1, 1, none⟩ b).setCell ⟨w.heap.size + 1 + 1, 2, none⟩ c).cell? ⟨w.heap.size, 1, none⟩ = some (.slice A1 r.num.length c1) ∧ (((w'.setCell ⟨w.heap.size + 1 + 1, 0, none⟩ a).setCell ⟨w.heap.size + 1 + 1, 1, none⟩ b).setCell ⟨w.heap.size + 1 + 1, 2, none⟩ c).cell? ⟨w.heap.size, 2, none⟩ = some (.slice A2 r.den.length c2) ∧ (((w'.setCell ⟨w.heap.size + 1 + 1, 0, none⟩ a).setCell ⟨w.heap.size + 1 + 1, 1, none⟩ b).setCell ⟨w.heap.size + 1 + 1, 2, none⟩ c).cell? ⟨w.heap.size + 1, 0, none⟩ = some (.bool s.neg) ∧ (((w'.setCell ⟨w.heap.size + 1 + 1, 0, none⟩ a).setCell ⟨w.heap.size + 1 + 1, 1, none⟩ b).setCell ⟨w.heap.size + 1 + 1, 2, none⟩ c).cell? ⟨w.heap.size + 1, 1, none⟩ = some (.slice A3 s.num.length c3) ∧ (((w'.setCell ⟨w.heap.size + 1 + 1, 0, none⟩ a).setCell ⟨w.heap.size + 1 + 1, 1, none⟩ b).setCell ⟨w.heap.size + 1 + 1, 2, none⟩ c).cell? ⟨w.heap.size + 1, 2, none⟩ = some (.slice A4 s.den.length c4)) from fun w' hb a b c =>
    ⟨blk_cell (blk_far (blk_far (blk_far (blk_below HB1.out hb) D1 _) D1 _) D1 _) 0, blk_cell (blk_far (blk_far (blk_far (blk_below HB1.out hb) D1 _) D1 _) D1 _) 1, blk_cell (blk_far (blk_far (blk_far (blk_below HB1.out hb) D1 _) D1 _) D1 _) 2, blk_cell (blk_far (blk_far (blk_far (blk_below HB2.out hb) D2 _) D2 _) D2 _) 0, blk_cell (blk_far (blk_far (blk_far (blk_below HB2.out hb) D2 _) D2 _) D2 _) 1, blk_cell (blk_far (blk_far (blk_far (blk_below HB2.out hb) D2 _) D2 _) D2 _) 2⟩)
  have HOK2 := Lib.hid (show ∀ w', Below W.heap.size W w' → ∀ b, w'.heap.size ≤ b → ok b ∧ b ≠ w.heap.size + 1 + 1 from fun w' hb b h => ⟨HOK.out b (by have := hb.size; have := HSZ.out; omega), by have := hb.size; have := HSZ.out; omega⟩)
  clear hW b1 b2 b3 D1 D2
  go_region_held3 (fun w' => w'.cell? ⟨w.heap.size, 0, none⟩ = some (.bool r.neg) ∧ w'.cell? ⟨w.heap.size, 1, none⟩ = some (.slice A1 r.num.length c1) ∧ w'.cell? ⟨w.heap.size, 2, none⟩ = some (.slice A2 r.den.length c2) ∧ w'.cell? ⟨w.heap.size + 1, 0, none⟩ = some (.bool s.neg) ∧ w'.cell? ⟨w.heap.size + 1, 1, none⟩ = some (.slice A3 s.num.length c3) ∧ w'.cell? ⟨w.heap.size + 1, 2, none⟩ = some (.slice A4 s.den.length c4))
    (first
      | (focus (refine HK.out _ ?_; (repeat (first | (with_reducible exact Below.refl _ _) | (with_reducible refine bl_drew ?_) | (focus ((with_reducible apply bl_call'); with_reducible assumption)))); done))
      | (focus (refine HK3.out _ ?_ _ _ _; (repeat (first | (with_reducible exact Below.refl _ _) | (with_reducible refine bl_drew ?_) | (focus ((with_reducible apply bl_call'); with_reducible assumption)))); done))
      | go_keep)
    (first
      | (go_at_call 39; refine (neg_any (fun _ => True) _ s _ (fun _ _ => trivial) ?_ (GS.out.le (by omega))).mono ?_; (refine SS.out _ ?_; repeat (first | (with_reducible exact Below.refl _ _) | (with_reducible refine bl_drew ?_) | (focus ((with_reducible apply bl_call'); with_reducible assumption)))); rintro e w1 ⟨z1, rfl, hz1, hb1⟩; have HZ1 := Lib.hid hz1.now; clear hz1)
      | (go_at_call 43; refine (Add_any (fun x => ok x ∧ x ≠ w.heap.size + 1 + 1) _ _ r (raw (-(qv s))) _ ?_ ?_ ?_ (GR.out.le (by omega)) (GN.out.le (by omega))).mono ?_; (focus (refine HOK2.out _ ?_; (repeat (first | (with_reducible exact Below.refl _ _) | (with_reducible refine bl_drew ?_) | (focus ((with_reducible apply bl_call'); with_reducible assumption)))); done)); (focus (refine RR.out _ ?_; (repeat (first | (with_reducible exact Below.refl _ _) | (with_reducible refine bl_drew ?_) | (focus ((with_reducible apply bl_call'); with_reducible assumption)))); done)); (focus (refine RdR.below HZ1.out ?_; (repeat (first | (with_reducible exact Below.refl _ _) | (with_reducible refine bl_drew ?_) | (focus ((with_reducible apply bl_call'); with_reducible assumption)))); done)); rw [HE.out]; rintro e v3 ⟨r3, rfl, ⟨n3, d3, rfl, hn3, hd3⟩, hv3⟩; have HN3 := Lib.hid hn3; have HD3 := Lib.hid hd3; have HBV := Lib.hid (show Below W.heap.size W v3 from by repeat (first | (with_reducible exact Below.refl _ _) | (with_reducible refine bl_drew ?_) | (focus ((with_reducible apply bl_call'); with_reducible assumption)))); have m0 := blk_cell (blk_below HB3.out HBV.out) 0; have m1 := blk_cell (blk_below HB3.out HBV.out) 1; have m2 := blk_cell (blk_below HB3.out HBV.out) 2; have mf := blk_frozen (blk_below HB3.out HBV.out); simp at m0 m1 m2; obtain ⟨A21, c21, rfl, l7, l8⟩ := hn3.len; obtain ⟨A22, c22, rfl, l9, l10⟩ := hd3.len; clear hn3 hd3))
  go_wp2_with fail
  refine bodyPost_ret (v := .agg #[.bool (raw (qv r - qv s)).neg, .slice A21 (raw (qv r - qv s)).num.length c21, .slice A22 (raw (qv r - qv s)).den.length c22]) (by simp [results, Try.results45, go_sem, m0, m1, m2]) rfl ⟨_, rfl, ?_, ?_⟩
  · refine ⟨_, _, rfl, ?_, ?_⟩
    · exact (((HN3.out.set (fun h => h.2 rfl) _).set (fun h => h.2 rfl) _).set (fun h => h.2 rfl) _).mono (fun b _ h => h.1)
    · exact (((HD3.out.set (fun h => h.2 rfl) _).set (fun h => h.2 rfl) _).set (fun h => h.2 rfl) _).mono (fun b _ h => h.1)
  · exact bl_set (bl_set (bl_set (bl_call HBW.out HBV.out) (by simp <;> omega) _) (by simp <;> omega) _) (by simp <;> omega) _
set_option maxRecDepth 100000 in
set_option maxHeartbeats 4000000 in
theorem rSub_any (ok : Nat → Prop) (v u : Value) (r s : Raw) (w : World) (hok : ∀ b, w.heap.size ≤ b → ok b) (hr : RdR w v r) (hs : RdR w u s) (gr : Good 200000 r) (gs : Good 200000 s) :
    Calls Try.prog 46 #[v, u] w fun e w' => ∃ z, e = .returned z ∧ RdRaw w' ok z (raw (qv r - qv s)) ∧ Below w.heap.size w w' := by
  have HOK := Lib.hid hok
  clear hok
  have HR := Lib.hid hr
  have HS := Lib.hid hs
  have GR := Lib.hid gr
  have GS := Lib.hid gs
  have GN := Lib.hid (good_neg (good_qv gs))
  have HE := Lib.hid (sub_qv (qv r) (qv s))
  obtain ⟨n1, d1, rfl, hn1, hd1⟩ := hr
  obtain ⟨n2, d2, rfl, hn2, hd2⟩ := hs
  obtain ⟨A1, c1, rfl, _, _⟩ := hn1.len
  obtain ⟨A2, c2, rfl, _, _⟩ := hd1.len
  obtain ⟨A3, c3, rfl, _, _⟩ := hn2.len
  obtain ⟨A4, c4, rfl, _, _⟩ := hd2.len
  clear hn1 hd1 hn2 hd2 gr gs
  go_enter Try.func46, Try.ntmps46
  go_upto_region 1 with (fail)
  obtain ⟨W, hW⟩ : ∃ W, W = ((w.alloc (.cells #[.bool r.neg, .slice A1 r.num.length c1, .slice A2 r.den.length c2] 24)).alloc (.cells #[.bool s.neg, .slice A3 s.num.length c3, .slice A4 s.den.length c4] 24)).alloc (.cells #[.bool false, .slice none 0 0, .slice none 0 0] 24) := ⟨_, rfl⟩
  have b1 : W.heap[w.heap.size]? = some (.cells #[.bool r.neg, .slice A1 r.num.length c1, .slice A2 r.den.length c2] 24 (0, 0)) := by rw [hW]; exact blk_alloc (blk_alloc (blk_new _ _) _) _
  have b2 : W.heap[w.heap.size + 1]? = some (.cells #[.bool s.neg, .slice A3 s.num.length c3, .slice A4 s.den.length c4] 24 (0, 0)) := by rw [hW]; exact blk_alloc (blk_new' (by simp) _) _
  have b3 : W.heap[w.heap.size + 1 + 1]? = some (.cells #[.bool false, .slice none 0 0, .slice none 0 0] 24 (0, 0)) := by rw [hW]; exact blk_new' (by simp) _
  have HB1 := Lib.hid b1
  have HB2 := Lib.hid b2
  have HB3 := Lib.hid b3
  have HBW := Lib.hid (show Below w.heap.size w W by rw [hW]; exact bl_alloc (bl_alloc (bl_alloc (Below.refl _ _) _) _) _)
  have HSZ := Lib.hid (show W.heap.size = w.heap.size + 1 + 1 + 1 by rw [hW]; simp)
  rw [← hW]
  have RR := Lib.hid (fun (W2 : World) (h : Below W.heap.size W W2) => HR.out.below (bl_call HBW.out h))
  have SS := Lib.hid (fun (W2 : World) (h : Below W.heap.size W W2) => HS.out.below (bl_call HBW.out h))
  have HK := Lib.hid (show ∀ w', Below W.heap.size W w' → (w'.cell? ⟨w.heap.size, 0, none⟩ = some (.bool r.neg) ∧ w'.cell? ⟨w.heap.size, 1, none⟩ = some (.slice A1 r.num.length c1) ∧ w'.cell? ⟨w.heap.size, 2, none⟩ = some (.slice A2 r.den.length c2) ∧ w'.cell? ⟨w.heap.size + 1, 0, none⟩ = some (.bool s.neg) ∧ w'.cell? ⟨w.heap.size + 1, 1, none⟩ = some (.slice A3 s.num.length c3) ∧ w'.cell? ⟨w.heap.size + 1, 2, none⟩ = some (.slice A4 s.den.length c4)) from fun w' hb =>
    ⟨blk_cell (blk_below HB1.out hb) 0, blk_cell (blk_below HB1.out hb) 1, blk_cell (blk_below HB1.out hb) 2, blk_cell (blk_below HB2.out hb) 0, blk_cell (blk_below HB2.out hb) 1, blk_cell (blk_below HB2.out hb) 2⟩)
  have D1 : w.heap.size ≠ w.heap.size + 1 + 1 := by omega
  have D2 : w.heap.size + 1 ≠ w.heap.size + 1 + 1 := by omega
  have HK3 := Lib.hid (show ∀ w', Below W.heap.size W w' → ∀ a b c : Value, ((((w'.setCell ⟨w.heap.size + 1 + 1, 0, none⟩ a).setCell ⟨w.heap.size + 1 + 1, 1, none⟩ b).setCell ⟨w.heap.size + 1 + 1, 2, none⟩ c).cell? ⟨w.heap.size, 0, none⟩ = some (.bool r.neg) ∧ (((w'.setCell ⟨w.heap.size + 1 + 1, 0, none⟩ a).setCell ⟨w.heap.size + 1 + 1, 1, none⟩ b).setCell ⟨w.heap.size + 1 + 1, 2, none⟩ c).cell? ⟨w.heap.size, 1, none⟩ = some (.slice A1 r.num.length c1) ∧ (((w'.setCell ⟨w.heap.size + 1 + 1, 0, none⟩ a).setCell ⟨w.heap.size + 1 + 1, 1, none⟩ b).setCell ⟨w.heap.size + 1 + 1, 2, none⟩ c).cell? ⟨w.heap.size, 2, none⟩ = some (.slice A2 r.den.length c2) ∧ (((w'.setCell ⟨w.heap.size + 1 + 1, 0, none⟩ a).setCell ⟨w.heap.size + 1 + 1, 1, none⟩ b).setCell ⟨w.heap.size + 1 + 1, 2, none⟩ c).cell? ⟨w.heap.size + 1, 0, none⟩ = some (.bool s.neg) ∧ (((w'.setCell ⟨w.heap.size + 1 + 1, 0, none⟩ a).setCell ⟨w.heap.size + 1 + 1, 1, none⟩ b).setCell ⟨w.heap.size + 1 + 1, 2, none⟩ c).cell? ⟨w.heap.size + 1, 1, none⟩ = some (.slice A3 s.num.length c3) ∧ (((w'.setCell ⟨w.heap.size + 1 + 1, 0, none⟩ a).setCell ⟨w.heap.size + 1 + 1, 1, none⟩ b).setCell ⟨w.heap.size + 1 + 1, 2, none⟩ c).cell? ⟨w.heap.size + 1, 2, none⟩ = some (.slice A4 s.den.length c4)) from fun w' hb a b c =>
    ⟨blk_cell (blk_far (blk_far (blk_far (blk_below HB1.out hb) D1 _) D1 _) D1 _) 0, blk_cell (blk_far (blk_far (blk_far (blk_below HB1.out hb) D1 _) D1 _) D1 _) 1, blk_cell (blk_far (blk_far (blk_far (blk_below HB1.out hb) D1 _) D1 _) D1 _) 2, blk_cell (blk_far (blk_far (blk_far (blk_below HB2.out hb) D2 _) D2 _) D2 _) 0, blk_cell (blk_far (blk_far (blk_far (blk_below HB2.out hb) D2 _) D2 _) D2 _) 1, blk_cell (blk_far (blk_far (blk_far (blk_below HB2.out hb) D2 _) D2 _) D2 _) 2⟩)
  have HOK2 := Lib.hid (show ∀ w', Below W.heap.size W w' → ∀ b, w'.heap.size ≤ b → ok b ∧ b ≠ w.heap.size + 1 + 1 from fun w' hb b h => ⟨HOK.out b (by have := hb.size; have := HSZ.out; omega), by have := hb.size; have := HSZ.out; omega⟩)
  clear hW b1 b2 b3 D1 D2
  go_region_held3 (fun w' => w'.cell? ⟨w.heap.size, 0, none⟩ = some (.bool r.neg) ∧ w'.cell? ⟨w.heap.size, 1, none⟩ = some (.slice A1 r.num.length c1) ∧ w'.cell? ⟨w.heap.size, 2, none⟩ = some (.slice A2 r.den.length c2) ∧ w'.cell? ⟨w.heap.size + 1, 0, none⟩ = some (.bool s.neg) ∧ w'.cell? ⟨w.heap.size + 1, 1, none⟩ = some (.slice A3 s.num.length c3) ∧ w'.cell? ⟨w.heap.size + 1, 2, none⟩ = some (.slice A4 s.den.length c4))
    (first
      | (focus (refine HK.out _ ?_; (repeat (first | (with_reducible exact Below.refl _ _) | (with_reducible refine bl_drew ?_) | (focus ((with_reducible apply bl_call'); with_reducible assumption)))); done))
      | (focus (refine HK3.out _ ?_ _ _ _; (repeat (first | (with_reducible exact Below.refl _ _) | (with_reducible refine bl_drew ?_) | (focus ((with_reducible apply bl_call'); with_reducible assumption)))); done))
      | go_keep)
    (first
      | (go_at_call 40; refine (rneg_any (fun _ => True) _ s _ (fun _ _ => trivial) ?_ (GS.out.le (by omega))).mono ?_; (refine SS.out _ ?_; repeat (first | (with_reducible exact Below.refl _ _) | (with_reducible refine bl_drew ?_) | (focus ((with_reducible apply bl_call'); with_reducible assumption)))); rintro e w1 ⟨z1, rfl, hz1, hb1⟩; have HZ1 := Lib.hid hz1.now; clear hz1)
      | (go_at_call 44; refine (rAdd_any (fun x => ok x ∧ x ≠ w.heap.size + 1 + 1) _ _ r (raw (-(qv s))) _ ?_ ?_ ?_ (GR.out.le (by omega)) (GN.out.le (by omega))).mono ?_; (focus (refine HOK2.out _ ?_; (repeat (first | (with_reducible exact Below.refl _ _) | (with_reducible refine bl_drew ?_) | (focus ((with_reducible apply bl_call'); with_reducible assumption)))); done)); (focus (refine RR.out _ ?_; (repeat (first | (with_reducible exact Below.refl _ _) | (with_reducible refine bl_drew ?_) | (focus ((with_reducible apply bl_call'); with_reducible assumption)))); done)); (focus (refine RdR.below HZ1.out ?_; (repeat (first | (with_reducible exact Below.refl _ _) | (with_reducible refine bl_drew ?_) | (focus ((with_reducible apply bl_call'); with_reducible assumption)))); done)); rw [HE.out]; rintro e v3 ⟨r3, rfl, ⟨n3, d3, rfl, hn3, hd3⟩, hv3⟩; have HN3 := Lib.hid hn3; have HD3 := Lib.hid hd3; have HBV := Lib.hid (show Below W.heap.size W v3 from by repeat (first | (with_reducible exact Below.refl _ _) | (with_reducible refine bl_drew ?_) | (focus ((with_reducible apply bl_call'); with_reducible assumption)))); have m0 := blk_cell (blk_below HB3.out HBV.out) 0; have m1 := blk_cell (blk_below HB3.out HBV.out) 1; have m2 := blk_cell (blk_below HB3.out HBV.out) 2; have mf := blk_frozen (blk_below HB3.out HBV.out); simp at m0 m1 m2; obtain ⟨A21, c21, rfl, l7, l8⟩ := hn3.len; obtain ⟨A22, c22, rfl, l9, l10⟩ := hd3.len; clear hn3 hd3))
  go_wp2_with fail
  refine bodyPost_ret (v := .agg #[.bool (raw (qv r - qv s)).neg, .slice A21 (raw (qv r - qv s)).num.length c21, .slice A22 (raw (qv r - qv s)).den.length c22]) (by simp [results, Try.results46, go_sem, m0, m1, m2]) rfl ⟨_, rfl, ?_, ?_⟩
  · refine ⟨_, _, rfl, ?_, ?_⟩
    · exact (((HN3.out.set (fun h => h.2 rfl) _).set (fun h => h.2 rfl) _).set (fun h => h.2 rfl) _).mono (fun b _ h => h.1)
    · exact (((HD3.out.set (fun h => h.2 rfl) _).set (fun h => h.2 rfl) _).set (fun h => h.2 rfl) _).mono (fun b _ h => h.1)
  · exact bl_set (bl_set (bl_set (bl_call HBW.out HBV.out) (by simp <;> omega) _) (by simp <;> omega) _) (by simp <;> omega) _
set_option maxRecDepth 100000 in
set_option maxHeartbeats 4000000 in
theorem Cmp_any (v u : Value) (r s : Raw) (w : World) (hr : RdR w v r) (hs : RdR w u s) (gr : Good 900000 r) (gs : Good 900000 s) :
    Calls Try.prog 47 #[v, u] w fun e w' => e = .returned (.int .i64 (sgnZ (qv r - qv s))) ∧ Below w.heap.size w w' := by
  have HR := Lib.hid hr
  have HS := Lib.hid hs
  have GR := Lib.hid gr
  have GS := Lib.hid gs
  have GD := Lib.hid (good_sub (good_qv gr) (good_qv gs))
  have HE := Lib.hid (congrArg sgnZ (qv_raw (qv r - qv s)))
  obtain ⟨n1, d1, rfl, hn1, hd1⟩ := hr
  obtain ⟨n2, d2, rfl, hn2, hd2⟩ := hs
  obtain ⟨A1, c1, rfl, _, _⟩ := hn1.len
  obtain ⟨A2, c2, rfl, _, _⟩ := hd1.len
  obtain ⟨A3, c3, rfl, _, _⟩ := hn2.len
  obtain ⟨A4, c4, rfl, _, _⟩ := hd2.len
  clear hn1 hd1 hn2 hd2 gr gs
  go_enter Try.func47, Try.ntmps47
  go_wp2_with fail
  have HA := Lib.hid (show Below w.heap.size w ((w.alloc (.cells #[.bool r.neg, .slice A1 r.num.length c1, .slice A2 r.den.length c2] 24)).alloc (.cells #[.bool s.neg, .slice A3 s.num.length c3, .slice A4 s.den.length c4] 24)) from bl_alloc (bl_alloc (Below.refl _ _) _) _)
  refine (Sub_any (fun _ => True) _ _ r s _ (fun _ _ => trivial) (HR.out.below HA.out) (HS.out.below HA.out) (GR.out.le (by omega)) (GS.out.le (by omega))).mono ?_
  rintro e w1 ⟨z1, rfl, hz1, hb1⟩
  have HZ := Lib.hid hz1.now
  have HB := Lib.hid (bl_call HA.out hb1)
  clear hz1 hb1
  go_wp2_with fail
  refine (sign_any _ (raw (qv r - qv s)) _ HZ.out (GD.out.le (by omega))).mono ?_
  rw [HE.out]
  rintro e w2 ⟨rfl, hb2⟩
  go_wp2_with fail
  go_ret
  exact ⟨rfl, bl_call HB.out hb2⟩
set_option maxRecDepth 100000 in
set_option maxHeartbeats 4000000 in
theorem rCmp_any (v u : Value) (r s : Raw) (w : World) (hr : RdR w v r) (hs : RdR w u s) (gr : Good 200000 r) (gs : Good 200000 s) :
    Calls Try.prog 54 #[v, u] w fun e w' => e = .returned (.int .i64 (sgnZ (qv r - qv s))) ∧ Below w.heap.size w w' := by
  have HR := Lib.hid hr
  have HS := Lib.hid hs
  have GR := Lib.hid gr
  have GS := Lib.hid gs
  have GD := Lib.hid (good_sub (good_qv gr) (good_qv gs))
  have HE := Lib.hid (congrArg sgnZ (qv_raw (qv r - qv s)))
  obtain ⟨n1, d1, rfl, hn1, hd1⟩ := hr
  obtain ⟨n2, d2, rfl, hn2, hd2⟩ := hs
  obtain ⟨A1, c1, rfl, _, _⟩ := hn1.len
  obtain ⟨A2, c2, rfl, _, _⟩ := hd1.len
  obtain ⟨A3, c3, rfl, _, _⟩ := hn2.len
  obtain ⟨A4, c4, rfl, _, _⟩ := hd2.len
  clear hn1 hd1 hn2 hd2 gr gs
  go_enter Try.func54, Try.ntmps54
  go_wp2_with fail
  have HA := Lib.hid (show Below w.heap.size w ((w.alloc (.cells #[.bool r.neg, .slice A1 r.num.length c1, .slice A2 r.den.length c2] 24)).alloc (.cells #[.bool s.neg, .slice A3 s.num.length c3, .slice A4 s.den.length c4] 24)) from bl_alloc (bl_alloc (Below.refl _ _) _) _)
  refine (rSub_any (fun _ => True) _ _ r s _ (fun _ _ => trivial) (HR.out.below HA.out) (HS.out.below HA.out) (GR.out.le (by omega)) (GS.out.le (by omega))).mono ?_
  rintro e w1 ⟨z1, rfl, hz1, hb1⟩
  have HZ := Lib.hid hz1.now
  have HB := Lib.hid (bl_call HA.out hb1)
  clear hz1 hb1
  go_wp2_with fail
  refine (rsign_any _ (raw (qv r - qv s)) _ HZ.out (GD.out.le (by omega))).mono ?_
  rw [HE.out]
  rintro e w2 ⟨rfl, hb2⟩
  go_wp2_with fail
  go_ret
  exact ⟨rfl, bl_call HB.out hb2⟩
end Go.Proofs.Ytikpdkgamcecjaa
