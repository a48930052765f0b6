import Derived.Test.YtbfgnpbkgegegaaV8
namespace Go.Proofs.Ytbfgnpbkgegegaa
open Go.RowKit
set_option linter.unusedSimpArgs false
set_option linter.unusedVariables false

/-- A row of integers in a block of its own. -/
def Own (w : World) (g : Nat) (xs : List Int) : Prop := ∃ cs t, w.heap[g]? = some (.cells cs t (0, 0)) ∧ ∀ j, j < xs.length → cs[j]? = some (.int .i64 (xs.getD j 0))
section
variable {w w1 : World} {g : Nat} {xs : List Int}
theorem Own.lt (h : Own w g xs) : g < w.heap.size := by obtain ⟨cs, t, h1, _⟩ := h; exact blk_lt h1
theorem Own.below (h : Own w g xs) (hb : Below w.heap.size w w1) : Own w1 g xs := by
  obtain ⟨cs, t, h1, h2⟩ := h
  exact ⟨cs, t, blk_below h1 hb, h2⟩
theorem Own.alloc (h : Own w g xs) (o : Obj) : Own (w.alloc o) g xs := h.below (bl_alloc (Below.refl _ _) o)
theorem Own.drew (h : Own w g xs) : Own w.drew g xs := h.below (bl_drew (Below.refl _ _))
theorem Own.far (h : Own w g xs) {p : Addr} (hp : g ≠ p.block) (u : Value) : Own (w.setCell p u) g xs := by
  obtain ⟨cs, t, h1, h2⟩ := h
  exact ⟨cs, t, blk_far h1 hp u, h2⟩
theorem Own.cell (h : Own w g xs) {i : Nat} (hi : i < xs.length) : w.cell? ⟨g, i, none⟩ = some (.int .i64 (xs.getD i 0)) := by
  obtain ⟨cs, t, h1, h2⟩ := h
  rw [blk_cell h1]; exact h2 i hi
theorem Own.frozen (h : Own w g xs) (i : Nat) : w.frozen? ⟨g, i, none⟩ = false := by
  obtain ⟨cs, t, h1, h2⟩ := h
  exact blk_frozen h1 i
theorem Own.set (h : Own w g xs) {i : Nat} (hi : i < xs.length) (x : Int) : Own (w.setCell ⟨g, i, none⟩ (.int .i64 x)) g (xs.set i x) := by
  obtain ⟨cs, t, h1, h2⟩ := h
  refine ⟨_, t, blk_set h1 i _, fun j hj => ?_⟩
  rw [List.length_set] at hj
  have h3 := h2 j hj
  have hsz : j < cs.size := (Array.getElem?_eq_some_iff.1 h3).1
  rw [Array.getElem?_setIfInBounds]
  by_cases he : i = j
  · subst he
    simp [hsz, List.getD_eq_getElem?_getD, List.getElem?_set, hj]
  · rw [if_neg he, h3]
    simp [List.getD_eq_getElem?_getD, List.getElem?_set, he]
theorem Own.rd (h : Own w g xs) {n c : Nat} (hn : n = xs.length) (hc : xs.length ≤ c) (hl : xs.length ≤ 9223372036854775807) : Rd .i64 w (.slice (some ⟨g, 0, none⟩) n c) xs := by
  obtain ⟨cs, t, h1, h2⟩ := h
  exact rd_blk h1 hn hl hc h2
theorem own_Own {b n c : Nat} {e : TypeId} {v : Value} (h : w.ownsRow b e 1 v n (xs.map (Value.int .i64))) (hx : xs ≠ []) : ∃ g c, v = .slice (some ⟨g, 0, none⟩) xs.length c ∧ b ≤ g ∧ xs.length ≤ c ∧ Own w g xs := by
  have hl : n = xs.length := by have := h.1; simp at this; omega
  subst hl
  rcases h.2 with ⟨rfl, h0⟩ | ⟨g, cap, cur, rfl, hg, hh, h1, h2, h3, h4⟩
  · exact absurd (List.eq_nil_of_length_eq_zero h0) hx
  · refine ⟨g, cap, rfl, hg, h1, cur, e, hh, fun j hj => ?_⟩
    have h5 : (cur.toList.take (xs.length * 1))[j]? = (xs.map (Value.int .i64))[j]? := by rw [h4]
    rw [List.getElem?_take, if_pos (by omega), List.getElem?_map, List.getElem?_eq_getElem hj] at h5
    rw [← Array.getElem?_toList, h5, List.getD_eq_getElem?_getD, List.getElem?_eq_getElem hj]; rfl
end
/-- A metric whose two rows lie in blocks of their own, b or later. -/
def RdO (w : World) (b : Nat) (v : Value) (bs fs : List Int) : Prop := ∃ g1 g2 c1 c2 : Nat, v = .agg #[.slice (some ⟨g1, 0, none⟩) 26 c1, .slice (some ⟨g2, 0, none⟩) 26 c2] ∧ (b ≤ g1 ∧ b ≤ g2 ∧ g1 ≠ g2 ∧ 26 ≤ c1 ∧ 26 ≤ c2) ∧ Own w g1 bs ∧ Own w g2 fs ∧ bs.length = 26 ∧ fs.length = 26
theorem RdO.now {w : World} {b : Nat} {v : Value} {bs fs : List Int} (h : RdO w b v bs fs) : RdM w v bs fs := by
  obtain ⟨g1, g2, c1, c2, rfl, ⟨_, _, _, h1, h2⟩, h3, h4, h5, h6⟩ := h
  exact ⟨_, _, rfl, h3.rd h5.symm (by omega) (by omega), h4.rd h6.symm (by omega) (by omega)⟩

set_option maxHeartbeats 1000000 in
theorem clone_own (v : Value) (xs : List Int) (w : World) (hx0 : xs ≠ []) (h : Rd .i64 w v xs) (hl : xs.length ≤ 1048576) :
    Calls Try.prog 50 #[v] w fun e w' => ∃ g c, e = .returned (.slice (some ⟨g, 0, none⟩) xs.length c) ∧ w.heap.size ≤ g ∧ xs.length ≤ c ∧ Own w' g xs ∧ Below w.heap.size w w' := by
  obtain ⟨i0, hi0, hz0, hz1, hz2⟩ := info_parts info2
  have H := Lib.hid h
  obtain ⟨A, c, rfl, _, hc⟩ := h
  clear hc
  have hr := H.out.reads.2
  cases A with
  | none =>
    have hxs : xs = [] := by
      have h9 := H.out
      obtain ⟨A', c', h1, _, h3⟩ := h9
      rcases h3 with h3 | ⟨ad, h4, _⟩
      · exact h3
      · injection h1 with e1; rw [← e1] at h4; cases h4
    exact absurd hxs hx0
  | some ad =>
    have hq := fun (w : World) (n c : Nat) => Lib.run_eql_slice_nil (P := Try.prog) w 22 2 (some ad) n c 0 0 Try.underlying22
    have hr2 := Lib.hid (hr.alloc (Nat.le_refl _) (.cells #[] 2))
    have hown := Lib.hid (World.ownsRow_lit (base := w.heap.size) (e := 2) (size := 1) w #[] 0 (Nat.le_refl _) (by simp [maxLen]) (by simp))
    clear hr
    go_enter Try.func50, Try.ntmps50
    go_wp2_with (first
      | (at_builtin
         refine wpList_append_any _ rfl (.tmp 5) (.tmp 6) _ rfl w.heap.size 2 i0 _ 1 8 Try.underlying22 hi0 hz0 hz1 hz2 rfl (by omega) (.slice (some ⟨w.heap.size, 0, none⟩) 0 0) 0 [] rfl
           hown.out w.heap.size (some ad) xs.length c (xs.map (Value.int .i64)) rfl hr2.out (one_ints _ _) (by simp only [maxLen]; omega) (by omega) (by simp) ?_
         intro v1 w1 hown1 hg1 hat1
         have hbw1 : Below w.heap.size w w1 := ((Below.refl _ _).alloc (Nat.le_refl _) _).grown hg1 (by simp) (by simp [Value.ownBlock])))
    go_ret
    simp only [List.nil_append, Nat.zero_add] at hown1
    obtain ⟨g, cc, rfl, hg, hc9, ho⟩ := own_Own (c := 0) hown1 hx0
    exact ⟨g, cc, rfl, hg, hc9, ho, hbw1⟩
set_option maxRecDepth 100000 in
set_option maxHeartbeats 2000000 in
theorem made_own (b0 b1 b2 b3 b4 b5 b6 b7 b8 b9 b10 b11 b12 b13 b14 b15 b16 b17 b18 b19 b20 b21 b22 b23 b24 b25 f0 f1 f2 f3 f4 f5 f6 f7 f8 f9 f10 f11 f12 f13 f14 f15 f16 f17 f18 f19 f20 f21 f22 f23 f24 f25 : Int) (w : World) :
    Calls Try.prog 43 #[.agg #[.int .i64 b0, .int .i64 b1, .int .i64 b2, .int .i64 b3, .int .i64 b4, .int .i64 b5, .int .i64 b6, .int .i64 b7, .int .i64 b8, .int .i64 b9, .int .i64 b10, .int .i64 b11, .int .i64 b12, .int .i64 b13, .int .i64 b14, .int .i64 b15, .int .i64 b16, .int .i64 b17, .int .i64 b18, .int .i64 b19, .int .i64 b20, .int .i64 b21, .int .i64 b22, .int .i64 b23, .int .i64 b24, .int .i64 b25], .agg #[.int .i64 f0, .int .i64 f1, .int .i64 f2, .int .i64 f3, .int .i64 f4, .int .i64 f5, .int .i64 f6, .int .i64 f7, .int .i64 f8, .int .i64 f9, .int .i64 f10, .int .i64 f11, .int .i64 f12, .int .i64 f13, .int .i64 f14, .int .i64 f15, .int .i64 f16, .int .i64 f17, .int .i64 f18, .int .i64 f19, .int .i64 f20, .int .i64 f21, .int .i64 f22, .int .i64 f23, .int .i64 f24, .int .i64 f25]] w fun e w' => ∃ r, e = .returned r ∧ RdO w' w.heap.size r [b0, b1, b2, b3, b4, b5, b6, b7, b8, b9, b10, b11, b12, b13, b14, b15, b16, b17, b18, b19, b20, b21, b22, b23, b24, b25] [f0, f1, f2, f3, f4, f5, f6, f7, f8, f9, f10, f11, f12, f13, f14, f15, f16, f17, f18, f19, f20, f21, f22, f23, f24, f25] ∧ Below w.heap.size w w' := by
  go_enter Try.func43, Try.ntmps43
  go_wp2
  obtain ⟨W, hW⟩ : ∃ W, W = ((w.alloc (.cells #[.int .i64 b0, .int .i64 b1, .int .i64 b2, .int .i64 b3, .int .i64 b4, .int .i64 b5, .int .i64 b6, .int .i64 b7, .int .i64 b8, .int .i64 b9, .int .i64 b10, .int .i64 b11, .int .i64 b12, .int .i64 b13, .int .i64 b14, .int .i64 b15, .int .i64 b16, .int .i64 b17, .int .i64 b18, .int .i64 b19, .int .i64 b20, .int .i64 b21, .int .i64 b22, .int .i64 b23, .int .i64 b24, .int .i64 b25] 49)).alloc (.cells #[.int .i64 f0, .int .i64 f1, .int .i64 f2, .int .i64 f3, .int .i64 f4, .int .i64 f5, .int .i64 f6, .int .i64 f7, .int .i64 f8, .int .i64 f9, .int .i64 f10, .int .i64 f11, .int .i64 f12, .int .i64 f13, .int .i64 f14, .int .i64 f15, .int .i64 f16, .int .i64 f17, .int .i64 f18, .int .i64 f19, .int .i64 f20, .int .i64 f21, .int .i64 f22, .int .i64 f23, .int .i64 f24, .int .i64 f25] 49)).alloc (.cells #[.slice none 0 0, .slice none 0 0] 28) := ⟨_, rfl⟩
  have g0 : W.heap[w.heap.size]? = some (.cells #[.int .i64 b0, .int .i64 b1, .int .i64 b2, .int .i64 b3, .int .i64 b4, .int .i64 b5, .int .i64 b6, .int .i64 b7, .int .i64 b8, .int .i64 b9, .int .i64 b10, .int .i64 b11, .int .i64 b12, .int .i64 b13, .int .i64 b14, .int .i64 b15, .int .i64 b16, .int .i64 b17, .int .i64 b18, .int .i64 b19, .int .i64 b20, .int .i64 b21, .int .i64 b22, .int .i64 b23, .int .i64 b24, .int .i64 b25] 49 (0, 0)) := by rw [hW]; exact blk_alloc (blk_alloc (blk_new _ _) _) _
  have g1 : W.heap[w.heap.size + 1]? = some (.cells #[.int .i64 f0, .int .i64 f1, .int .i64 f2, .int .i64 f3, .int .i64 f4, .int .i64 f5, .int .i64 f6, .int .i64 f7, .int .i64 f8, .int .i64 f9, .int .i64 f10, .int .i64 f11, .int .i64 f12, .int .i64 f13, .int .i64 f14, .int .i64 f15, .int .i64 f16, .int .i64 f17, .int .i64 f18, .int .i64 f19, .int .i64 f20, .int .i64 f21, .int .i64 f22, .int .i64 f23, .int .i64 f24, .int .i64 f25] 49 (0, 0)) := by rw [hW]; exact blk_alloc (blk_new' (by simp) _) _
  have g2 : W.heap[w.heap.size + 1 + 1]? = some (.cells #[.slice none 0 0, .slice none 0 0] 28 (0, 0)) := by rw [hW]; exact blk_new' (by simp) _
  have HB : Below w.heap.size w W := by rw [hW]; exact bl_alloc (bl_alloc (bl_alloc (Below.refl _ _) _) _) _
  rw [← hW]
  have G0 := Lib.hid g0
  have G1 := Lib.hid g1
  have G2 := Lib.hid g2
  clear g0 g1 g2
  have hsz : W.heap.size = w.heap.size + 1 + 1 + 1 := by rw [hW]; simp
  have HSZ := Lib.hid hsz
  clear hsz hW
  have R0 : ∀ W1, Below W.heap.size W W1 → Rd .i64 W1 (.slice (some ⟨w.heap.size, 0, none⟩) 26 26) [b0, b1, b2, b3, b4, b5, b6, b7, b8, b9, b10, b11, b12, b13, b14, b15, b16, b17, b18, b19, b20, b21, b22, b23, b24, b25] := fun W1 hb => rd_arr (xs := [b0, b1, b2, b3, b4, b5, b6, b7, b8, b9, b10, b11, b12, b13, b14, b15, b16, b17, b18, b19, b20, b21, b22, b23, b24, b25]) (blk_below G0.out hb) (by simp)
  have R1 : ∀ W1, Below W.heap.size W W1 → Rd .i64 W1 (.slice (some ⟨w.heap.size + 1, 0, none⟩) 26 26) [f0, f1, f2, f3, f4, f5, f6, f7, f8, f9, f10, f11, f12, f13, f14, f15, f16, f17, f18, f19, f20, f21, f22, f23, f24, f25] := fun W1 hb => rd_arr (xs := [f0, f1, f2, f3, f4, f5, f6, f7, f8, f9, f10, f11, f12, f13, f14, f15, f16, f17, f18, f19, f20, f21, f22, f23, f24, f25]) (blk_below G1.out hb) (by simp)
  have HR0 := Lib.hid R0
  have HR1 := Lib.hid R1
  clear R0 R1
  have HK := Lib.hid (show ∀ w', Below W.heap.size W w' → w'.cell? ⟨w.heap.size + 1 + 1, 0, none⟩ = some (.slice none 0 0) ∧ w'.cell? ⟨w.heap.size + 1 + 1, 1, none⟩ = some (.slice none 0 0) ∧ w'.frozen? ⟨w.heap.size + 1 + 1, 0, none⟩ = false ∧ w'.frozen? ⟨w.heap.size + 1 + 1, 1, none⟩ = false from fun w' hb => by
    have g := blk_below G2.out hb
    exact ⟨blk_cell g 0, blk_cell g 1, blk_frozen g 0, blk_frozen g 1⟩)
  go_region_held3 (fun _ => True) (first | trivial | go_keep)
    (first
      | (go_at_call_of 50 (Value.slice (some ⟨w.heap.size, 0, none⟩) 26 26); refine (clone_own _ [b0, b1, b2, b3, b4, b5, b6, b7, b8, b9, b10, b11, b12, b13, b14, b15, b16, b17, b18, b19, b20, b21, b22, b23, b24, b25] _ (by simp) ?_ ?_).mono ?_; (exact HR0.out _ (bl_drew (Below.refl _ _))); (simp); rintro e w1 ⟨k1, c1, rfl, hk1, hc1, ho1, hb1⟩; have HX1 := Lib.hid ho1; have HL1 := ho1.lt; simp only [List.length_cons, List.length_nil, Nat.zero_add, Nat.reduceAdd] at hc1; clear ho1)
      | (go_at_call 50; refine (clone_own _ [f0, f1, f2, f3, f4, f5, f6, f7, f8, f9, f10, f11, f12, f13, f14, f15, f16, f17, f18, f19, f20, f21, f22, f23, f24, f25] _ (by simp) ?_ ?_).mono ?_; (exact HR1.out _ (bl_call (bl_drew (Below.refl _ _)) hb1)); (simp); rintro e w2 ⟨k2, c2, rfl, hk2, hc2, ho2, hb2⟩; have HX2 := Lib.hid ho2; have HL2 := ho2.lt; simp only [List.length_cons, List.length_nil, Nat.zero_add, Nat.reduceAdd] at hc2; clear ho2; have HB2 := Lib.hid (bl_call (bl_call (bl_drew (Below.refl _ _)) hb1) hb2); obtain ⟨m0, m1, m2, m3⟩ := HK.out _ HB2.out))
  go_wp2
  refine bodyPost_ret (v := .agg #[.slice (some ⟨k1, 0, none⟩) 26 c1, .slice (some ⟨k2, 0, none⟩) 26 c2]) (by simp [results, Try.results43, go_sem, m0, m1]) rfl ⟨_, rfl, ⟨k1, k2, c1, c2, rfl, ⟨?_, ?_, ?_, hc1, hc2⟩, ?_, ?_, rfl, rfl⟩, ?_⟩
  · have h1 := HSZ.out; simp at hk1; omega
  · have h1 := HSZ.out; simp at hk1; omega
  · omega
  · have h1 := HSZ.out; simp at hk1; exact (((HX1.out.below hb2).far (by simp; omega) _).far (by simp; omega) _)
  · have h1 := HSZ.out; simp at hk1; exact ((HX2.out.far (by simp; omega) _).far (by simp; omega) _)
  · exact bl_set (bl_set (bl_call HB HB2.out) (by simp; omega) _) (by simp; omega) _
end Go.Proofs.Ytbfgnpbkgegegaa
