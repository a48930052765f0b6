import Derived.Test.YtbfgnpbkgegegaaV5
import Derived.Deep.RegionHeld3
namespace Go.Proofs.Ytbfgnpbkgegegaa
open Go.RowKit
set_option linter.unusedSimpArgs false
set_option linter.unusedVariables false

theorem rd_arr {W : World} {g : Nat} {t : TypeId} {xs : List Int} (h : W.heap[g]? = some (.cells (xs.map (Value.int .i64)).toArray t (0, 0))) (hl : xs.length ≤ 9223372036854775807) : Rd .i64 W (.slice (some ⟨g, 0, none⟩) xs.length xs.length) xs :=
  rd_blk h rfl hl (Nat.le_refl _) (fun j hj => by simp [List.getElem?_map, List.getElem?_eq_getElem hj, List.getD_eq_getElem?_getD])
/-- .. with the blocks it lies in. -/
def RdMf (w : World) (ok : Nat → Prop) (v : Value) (bs fs : List Int) : Prop := ∃ b f, v = .agg #[b, f] ∧ Rdf .i64 w ok b bs ∧ Rdf .i64 w ok f fs
theorem RdMf.now {w : World} {ok : Nat → Prop} {v : Value} {bs fs : List Int} (h : RdMf w ok v bs fs) : RdM w v bs fs := by
  obtain ⟨b, f, h1, h2, h3⟩ := h
  exact ⟨b, f, h1, h2.now, h3.now⟩
set_option maxRecDepth 100000 in
set_option maxHeartbeats 2000000 in
theorem made_any (ok : Nat → Prop) (b0 b1 b2 b3 b4 b5 b6 b7 b8 b9 b10 b11 b12 b13 b14 b15 b16 b17 b18 b19 b20 b21 b22 b23 b24 b25 f0 f1 f2 f3 f4 f5 f6 f7 f8 f9 f10 f11 f12 f13 f14 f15 f16 f17 f18 f19 f20 f21 f22 f23 f24 f25 : Int) (w : World) (hok : ∀ b, w.heap.size ≤ b → ok b) :
    Calls Try.prog 43 #[.agg #[.int .i64 b0, .int .i64 b1, .int .i64 b2, .int .i64 b3, .int .i64 b4, .int .i64 b5, .int .i64 b6, .int .i64 b7, .int .i64 b8, .int .i64 b9, .int .i64 b10, .int .i64 b11, .int .i64 b12, .int .i64 b13, .int .i64 b14, .int .i64 b15, .int .i64 b16, .int .i64 b17, .int .i64 b18, .int .i64 b19, .int .i64 b20, .int .i64 b21, .int .i64 b22, .int .i64 b23, .int .i64 b24, .int .i64 b25], .agg #[.int .i64 f0, .int .i64 f1, .int .i64 f2, .int .i64 f3, .int .i64 f4, .int .i64 f5, .int .i64 f6, .int .i64 f7, .int .i64 f8, .int .i64 f9, .int .i64 f10, .int .i64 f11, .int .i64 f12, .int .i64 f13, .int .i64 f14, .int .i64 f15, .int .i64 f16, .int .i64 f17, .int .i64 f18, .int .i64 f19, .int .i64 f20, .int .i64 f21, .int .i64 f22, .int .i64 f23, .int .i64 f24, .int .i64 f25]] w fun e w' => ∃ r, e = .returned r ∧ RdMf w' ok r [b0, b1, b2, b3, b4, b5, b6, b7, b8, b9, b10, b11, b12, b13, b14, b15, b16, b17, b18, b19, b20, b21, b22, b23, b24, b25] [f0, f1, f2, f3, f4, f5, f6, f7, f8, f9, f10, f11, f12, f13, f14, f15, f16, f17, f18, f19, f20, f21, f22, f23, f24, f25] ∧ Below w.heap.size w w' := by
  have HOK := Lib.hid hok
  clear hok
  go_enter Try.func43, Try.ntmps43
  go_wp2
  obtain ⟨W, hW⟩ : ∃ W, W = ((w.alloc (.cells #[.int .i64 b0, .int .i64 b1, .int .i64 b2, .int .i64 b3, .int .i64 b4, .int .i64 b5, .int .i64 b6, .int .i64 b7, .int .i64 b8, .int .i64 b9, .int .i64 b10, .int .i64 b11, .int .i64 b12, .int .i64 b13, .int .i64 b14, .int .i64 b15, .int .i64 b16, .int .i64 b17, .int .i64 b18, .int .i64 b19, .int .i64 b20, .int .i64 b21, .int .i64 b22, .int .i64 b23, .int .i64 b24, .int .i64 b25] 49)).alloc (.cells #[.int .i64 f0, .int .i64 f1, .int .i64 f2, .int .i64 f3, .int .i64 f4, .int .i64 f5, .int .i64 f6, .int .i64 f7, .int .i64 f8, .int .i64 f9, .int .i64 f10, .int .i64 f11, .int .i64 f12, .int .i64 f13, .int .i64 f14, .int .i64 f15, .int .i64 f16, .int .i64 f17, .int .i64 f18, .int .i64 f19, .int .i64 f20, .int .i64 f21, .int .i64 f22, .int .i64 f23, .int .i64 f24, .int .i64 f25] 49)).alloc (.cells #[.slice none 0 0, .slice none 0 0] 28) := ⟨_, rfl⟩
  have g0 : W.heap[w.heap.size]? = some (.cells #[.int .i64 b0, .int .i64 b1, .int .i64 b2, .int .i64 b3, .int .i64 b4, .int .i64 b5, .int .i64 b6, .int .i64 b7, .int .i64 b8, .int .i64 b9, .int .i64 b10, .int .i64 b11, .int .i64 b12, .int .i64 b13, .int .i64 b14, .int .i64 b15, .int .i64 b16, .int .i64 b17, .int .i64 b18, .int .i64 b19, .int .i64 b20, .int .i64 b21, .int .i64 b22, .int .i64 b23, .int .i64 b24, .int .i64 b25] 49 (0, 0)) := by rw [hW]; exact blk_alloc (blk_alloc (blk_new _ _) _) _
  have g1 : W.heap[w.heap.size + 1]? = some (.cells #[.int .i64 f0, .int .i64 f1, .int .i64 f2, .int .i64 f3, .int .i64 f4, .int .i64 f5, .int .i64 f6, .int .i64 f7, .int .i64 f8, .int .i64 f9, .int .i64 f10, .int .i64 f11, .int .i64 f12, .int .i64 f13, .int .i64 f14, .int .i64 f15, .int .i64 f16, .int .i64 f17, .int .i64 f18, .int .i64 f19, .int .i64 f20, .int .i64 f21, .int .i64 f22, .int .i64 f23, .int .i64 f24, .int .i64 f25] 49 (0, 0)) := by rw [hW]; exact blk_alloc (blk_new' (by simp) _) _
  have g2 : W.heap[w.heap.size + 1 + 1]? = some (.cells #[.slice none 0 0, .slice none 0 0] 28 (0, 0)) := by rw [hW]; exact blk_new' (by simp) _
  have HB : Below w.heap.size w W := by rw [hW]; exact bl_alloc (bl_alloc (bl_alloc (Below.refl _ _) _) _) _
  rw [← hW]
  have G0 := Lib.hid g0
  have G1 := Lib.hid g1
  have G2 := Lib.hid g2
  clear g0 g1 g2
  have hsz : W.heap.size = w.heap.size + 1 + 1 + 1 := by rw [hW]; simp
  have hok2 : ∀ b, W.heap.size ≤ b → ok b ∧ b ≠ w.heap.size + 1 + 1 := fun b hb => ⟨HOK.out b (by omega), by omega⟩
  have HOK2 := Lib.hid hok2
  have HSZ := Lib.hid hsz
  clear hok2 hsz hW
  have R0 : ∀ W1, Below W.heap.size W W1 → Rd .i64 W1 (.slice (some ⟨w.heap.size, 0, none⟩) 26 26) [b0, b1, b2, b3, b4, b5, b6, b7, b8, b9, b10, b11, b12, b13, b14, b15, b16, b17, b18, b19, b20, b21, b22, b23, b24, b25] := fun W1 hb => rd_arr (xs := [b0, b1, b2, b3, b4, b5, b6, b7, b8, b9, b10, b11, b12, b13, b14, b15, b16, b17, b18, b19, b20, b21, b22, b23, b24, b25]) (blk_below G0.out hb) (by simp)
  have R1 : ∀ W1, Below W.heap.size W W1 → Rd .i64 W1 (.slice (some ⟨w.heap.size + 1, 0, none⟩) 26 26) [f0, f1, f2, f3, f4, f5, f6, f7, f8, f9, f10, f11, f12, f13, f14, f15, f16, f17, f18, f19, f20, f21, f22, f23, f24, f25] := fun W1 hb => rd_arr (xs := [f0, f1, f2, f3, f4, f5, f6, f7, f8, f9, f10, f11, f12, f13, f14, f15, f16, f17, f18, f19, f20, f21, f22, f23, f24, f25]) (blk_below G1.out hb) (by simp)
  have HR0 := Lib.hid R0
  have HR1 := Lib.hid R1
  clear R0 R1
  have HK := Lib.hid (show ∀ w', Below W.heap.size W w' → w'.cell? ⟨w.heap.size + 1 + 1, 0, none⟩ = some (.slice none 0 0) ∧ w'.cell? ⟨w.heap.size + 1 + 1, 1, none⟩ = some (.slice none 0 0) ∧ w'.frozen? ⟨w.heap.size + 1 + 1, 0, none⟩ = false ∧ w'.frozen? ⟨w.heap.size + 1 + 1, 1, none⟩ = false from fun w' hb => by
    have g := blk_below G2.out hb
    exact ⟨blk_cell g 0, blk_cell g 1, blk_frozen g 0, blk_frozen g 1⟩)
  go_region_held3 (fun _ => True) (first | trivial | go_keep)
    (first
      | (go_at_call_of 50 (Value.slice (some ⟨w.heap.size, 0, none⟩) 26 26); refine (clone_any (fun b => ok b ∧ b ≠ w.heap.size + 1 + 1) _ [b0, b1, b2, b3, b4, b5, b6, b7, b8, b9, b10, b11, b12, b13, b14, b15, b16, b17, b18, b19, b20, b21, b22, b23, b24, b25] _ ?_ ?_ ?_).mono ?_; (intro b hb; exact HOK2.out b hb); (exact HR0.out _ (bl_drew (Below.refl _ _))); (simp); rintro e w1 ⟨r1, rfl, hr1, hb1⟩; have HX1 := Lib.hid hr1; obtain ⟨A1, c1, rfl, hl1, hx1⟩ := hr1.now; clear hx1 hl1 hr1)
      | (go_at_call 50; refine (clone_any (fun b => ok b ∧ b ≠ w.heap.size + 1 + 1) _ [f0, f1, f2, f3, f4, f5, f6, f7, f8, f9, f10, f11, f12, f13, f14, f15, f16, f17, f18, f19, f20, f21, f22, f23, f24, f25] _ ?_ ?_ ?_).mono ?_; (intro b hb; exact HOK2.out b (Nat.le_trans hb1.size hb)); (exact HR1.out _ (bl_call (bl_drew (Below.refl _ _)) hb1)); (simp); rintro e w2 ⟨r2, rfl, hr2, hb2⟩; have HX2 := Lib.hid hr2; obtain ⟨A2, c2, rfl, hl2, hx2⟩ := hr2.now; clear hx2 hl2 hr2; have HB2 := Lib.hid (bl_call (bl_call (bl_drew (Below.refl _ _)) hb1) hb2); obtain ⟨m0, m1, m2, m3⟩ := HK.out _ HB2.out))
  go_wp2
  refine bodyPost_ret (v := .agg #[.slice A1 26 c1, .slice A2 26 c2]) (by simp [results, Try.results43, go_sem, m0, m1]) rfl ⟨_, rfl, ⟨_, _, rfl, ?_, ?_⟩, ?_⟩
  · exact (((HX1.out.below hb2).set (by simp) _).set (by simp) _).mono (fun b _ h => h.1)
  · exact ((HX2.out.set (by simp) _).set (by simp) _).mono (fun b _ h => h.1)
  · exact bl_set (bl_set (bl_call HB HB2.out) (by simp; omega) _) (by simp; omega) _
end Go.Proofs.Ytbfgnpbkgegegaa
