/- Words: worlds that grow, blocks, slices of integers that read as lists, with the blocks they lie in. -/
import Derived.Test.YtikpdkgamcecjaaW0
namespace Go.Proofs.Ytikpdkgamcecjaa
open Go.RowKit
set_option linter.unusedSimpArgs false
set_option linter.unusedVariables false

theorem bl_alloc {w W : World} (h : Below w.heap.size w W) (o : Obj) : Below w.heap.size w (W.alloc o) := h.alloc h.size o
theorem bl_drew {B : Nat} {w W : World} (h : Below B w W) : Below B w W.drew := ⟨h.os, h.tape, h.output, h.size, h.block⟩
theorem bl_drewN {B : Nat} {w W : World} (h : Below B w W) (n : Nat) : Below B w (W.drewN n) := ⟨h.os, h.tape, h.output, h.size, h.block⟩
theorem bl_call {w w1 w2 : World} (h : Below w.heap.size w w1) (k : Below w1.heap.size w1 w2) : Below w.heap.size w w2 :=
  h.trans ⟨k.os, k.tape, k.output, k.size, fun i hi => k.block i (Nat.lt_of_lt_of_le hi h.size)⟩
theorem bl_set {w W : World} (h : Below w.heap.size w W) {a : Addr} (hB : w.heap.size ≤ a.block) (v : Value) : Below w.heap.size w (W.setCell a v) := h.setCell hB v

theorem blk_set {w : World} {g : Nat} {t : TypeId} {cs : Array Value} (h : w.heap[g]? = some (.cells cs t (0, 0))) (i : Nat) (u : Value) : (w.setCell ⟨g, i, none⟩ u).heap[g]? = some (.cells (cs.setIfInBounds i u) t (0, 0)) := by
  simp [World.setCell, Array.getElem?_modify, h]
theorem blk_cell {w : World} {g : Nat} {t : TypeId} {cs : Array Value} (h : w.heap[g]? = some (.cells cs t (0, 0))) (i : Nat) : w.cell? ⟨g, i, none⟩ = cs[i]? := cell_of_row w g i cs t (0, 0) h
theorem blk_frozen {w : World} {g : Nat} {t : TypeId} {cs : Array Value} (h : w.heap[g]? = some (.cells cs t (0, 0))) (i : Nat) : w.frozen? ⟨g, i, none⟩ = false := by simp [World.frozen?, h]
theorem blk_lt {w : World} {g : Nat} {o : Obj} (h : w.heap[g]? = some o) : g < w.heap.size := (Array.getElem?_eq_some_iff.1 h).1
theorem blk_far {w : World} {g : Nat} {o : Obj} (h : w.heap[g]? = some o) {p : Addr} (hp : g ≠ p.block) (u : Value) : (w.setCell p u).heap[g]? = some o := (Below.heap_setCell w p u g hp).trans h
theorem blk_below {w w1 : World} {g : Nat} {o : Obj} (h : w.heap[g]? = some o) (hb : Below w.heap.size w w1) : w1.heap[g]? = some o := (hb.block g (blk_lt h)).trans h
theorem blk_new (w : World) (o : Obj) : (w.alloc o).heap[w.heap.size]? = some o := heap_alloc_new w o
theorem blk_new' {w : World} {g : Nat} (hg : g = w.heap.size) (o : Obj) : (w.alloc o).heap[g]? = some o := by subst hg; exact heap_alloc_new w o
theorem blk_alloc {w : World} {g : Nat} {o : Obj} (h : w.heap[g]? = some o) (o' : Obj) : (w.alloc o').heap[g]? = some o := blk_below h (bl_alloc (Below.refl _ _) o')
theorem bcell {W w1 : World} (hb : Below W.heap.size W w1) : (∀ b o, b < W.heap.size → w1.cell? ⟨b, o, none⟩ = W.cell? ⟨b, o, none⟩) ∧ (∀ b o, b < W.heap.size → w1.frozen? ⟨b, o, none⟩ = W.frozen? ⟨b, o, none⟩) :=
  ⟨fun b o h => hb.cell (p := ⟨b, o, none⟩) h, fun b o h => hb.frozen (p := ⟨b, o, none⟩) h⟩
theorem add_at (g o j : Nat) : (⟨g, o, none⟩ : Addr).add j = ⟨g, o + j, none⟩ := by unfold Addr.add; split <;> simp_all
theorem add_lit (a : Addr) (n : Nat) (h : 0 < n) : a.add n = ⟨a.block, a.off + n, none⟩ := by unfold Addr.add; split <;> simp_all

/-- A slice of integers that reads as xs. -/
def Rd (k : IntKind) (w : World) (v : Value) (xs : List Int) : Prop :=
  ∃ A c, v = .slice A xs.length c ∧ (xs.length ≤ 9223372036854775807 ∧ xs.length ≤ c) ∧ (xs = [] ∨ ∃ ad : Addr, A = some ad ∧ ∀ j, j < xs.length → w.cell? (ad.add j) = some (.int k (xs.getD j 0)))
/-- .. in every world that has the blocks of ok as they are here. -/
def Rdf (k : IntKind) (w : World) (ok : Nat → Prop) (v : Value) (xs : List Int) : Prop :=
  ∀ w' : World, (∀ b, ok b → b < w.heap.size → w'.heap[b]? = w.heap[b]?) → Rd k w' v xs
section
variable {k : IntKind} {w w1 : World} {v : Value} {xs : List Int} {ok ok' : Nat → Prop}
theorem Rd.below (h : Rd k w v xs) (hb : Below w.heap.size w w1) : Rd k w1 v xs := by
  obtain ⟨A, c, h1, h2, h3⟩ := h
  refine ⟨A, c, h1, h2, ?_⟩
  rcases h3 with h3 | ⟨ad, h4, h5⟩
  · exact .inl h3
  · exact .inr ⟨ad, h4, fun j hj => (hb.cell (World.block_lt_of_cell? w _ (h5 j hj))).trans (h5 j hj)⟩
theorem Rdf.now (h : Rdf k w ok v xs) : Rd k w v xs := h w (fun _ _ _ => rfl)
theorem Rd.foot (h : Rd k w v xs) : Rdf k w (fun _ => True) v xs := fun w' hw => by
  obtain ⟨A, c, h1, h2, h3⟩ := h
  refine ⟨A, c, h1, h2, ?_⟩
  rcases h3 with h3 | ⟨ad, h4, h5⟩
  · exact .inl h3
  · refine .inr ⟨ad, h4, fun j hj => ?_⟩
    rw [← h5 j hj]
    exact World.cell?_of_block (hw _ trivial (World.block_lt_of_cell? w _ (h5 j hj)))
theorem Rdf.mono (h : Rdf k w ok v xs) (hok : ∀ b, b < w.heap.size → ok b → ok' b) : Rdf k w ok' v xs := fun w' hw => h w' (fun b hb hl => hw b (hok b hl hb) hl)
theorem Rdf.move (h : Rdf k w ok v xs) (hm : ∀ b, ok b → b < w.heap.size → w1.heap[b]? = w.heap[b]?) : Rdf k w1 ok v xs := fun w' hw => h w' (fun b hb hl => by
  have h1 := hm b hb hl
  have h2 : b < w1.heap.size := by
    rw [Array.getElem?_eq_getElem hl] at h1
    exact (Array.getElem?_eq_some_iff.1 h1).1
  exact (hw b hb h2).trans h1)
theorem Rdf.below (h : Rdf k w ok v xs) (hb : Below w.heap.size w w1) : Rdf k w1 ok v xs := h.move (fun b _ hl => hb.block b hl)
theorem Rdf.set (h : Rdf k w ok v xs) {a : Addr} (hne : ¬ ok a.block) (u : Value) : Rdf k (w.setCell a u) ok v xs := h.move (fun b hb _ => Below.heap_setCell w a u b (fun e => hne (e ▸ hb)))
theorem Rdf.nil (k : IntKind) (w : World) (ok : Nat → Prop) (c : Nat) : Rdf k w ok (.slice none 0 c) [] := fun _ _ => ⟨none, c, rfl, ⟨by simp, by simp⟩, .inl rfl⟩
theorem rd_blk {g n c : Nat} {t : TypeId} {cs : Array Value} (h : w.heap[g]? = some (.cells cs t (0, 0))) (hn : n = xs.length) (hl : xs.length ≤ 9223372036854775807) (hc : xs.length ≤ c)
    (hcs : ∀ j, j < xs.length → cs[j]? = some (.int k (xs.getD j 0))) : Rd k w (.slice (some ⟨g, 0, none⟩) n c) xs := by
  subst hn
  refine ⟨_, c, rfl, ⟨hl, hc⟩, .inr ⟨_, rfl, fun j hj => ?_⟩⟩
  rw [add_at, Nat.zero_add, blk_cell h]
  exact hcs j hj
theorem rdf_blk {g n c : Nat} {t : TypeId} {cs : Array Value} (h : w.heap[g]? = some (.cells cs t (0, 0))) (hn : n = xs.length) (hl : xs.length ≤ 9223372036854775807) (hc : xs.length ≤ c)
    (hcs : ∀ j, j < xs.length → cs[j]? = some (.int k (xs.getD j 0))) (hok : ok g) : Rdf k w ok (.slice (some ⟨g, 0, none⟩) n c) xs := fun w' hw => rd_blk ((hw g hok (blk_lt h)).trans h) hn hl hc hcs
theorem rd_nil (k : IntKind) (w : World) (c : Nat) : Rd k w (.slice none 0 c) [] := ⟨none, c, rfl, ⟨by simp, by simp⟩, .inl rfl⟩
theorem rd_take {x : Addr} {len cap : Nat} {zs : List Int} (hl : len ≤ cap) (hm : cap ≤ maxLen) (hz : zs.length = cap) (hc : ∀ i, i < zs.length → w.cell? (x.add i) = some (.int k (zs.getD i 0))) : Rd k w (.slice (some x) len cap) (zs.take len) := by
  unfold maxLen at hm
  have h1 : (zs.take len).length = len := by rw [List.length_take]; omega
  refine ⟨some x, cap, by rw [h1], ⟨by omega, by omega⟩, .inr ⟨x, rfl, fun j hj => ?_⟩⟩
  rw [hc j (by omega)]
  simp [List.getD_eq_getElem?_getD, List.getElem?_take, show j < len by omega]
theorem Rd.reads {A : Option Addr} {n c : Nat} (h : Rd k w (.slice A n c) xs) : n = xs.length ∧ Reads w w.heap.size 1 A n (xs.map (Value.int k)) := by
  obtain ⟨A', c', h1, h2, h3⟩ := h
  injection h1 with e1 e2 e3
  subst e1; subst e2
  refine ⟨rfl, by simp, fun hn => ?_⟩
  rcases h3 with rfl | ⟨ad, h4, h5⟩
  · simp at hn
  · refine ⟨ad, h4, ?_, fun j u hu => ?_⟩
    · have h6 := World.block_lt_of_cell? w _ (h5 0 hn)
      rwa [block_of_add] at h6
    · have hj : j < xs.length := by have := (List.getElem?_eq_some_iff.1 hu).1; simpa using this
      rw [h5 j hj]
      rw [List.getElem?_map, List.getElem?_eq_getElem hj] at hu
      simp at hu
      rw [← hu, List.getD_eq_getElem?_getD, List.getElem?_eq_getElem hj]; rfl
theorem own_rd {base n : Nat} {e : TypeId} (h : w.ownsRow base e 1 v n (xs.map (Value.int k))) : Rd k w v xs ∧ n = xs.length := by
  have hl : n = xs.length := by have := h.1; simp at this; omega
  subst hl
  refine ⟨?_, rfl⟩
  rcases h.2 with ⟨rfl, h0⟩ | ⟨g, cap, cur, rfl, hg, hh, h1, h2, h3, h4⟩
  · have : xs = [] := List.eq_nil_of_length_eq_zero h0
    subst this
    exact rd_nil _ _ _
  · simp only [maxLen] at h2
    refine ⟨_, cap, rfl, ⟨by omega, h1⟩, .inr ⟨_, rfl, fun j hj => h.cells (g := g) rfl j _ ?_⟩⟩
    rw [List.getElem?_map, List.getElem?_eq_getElem hj, List.getD_eq_getElem?_getD, List.getElem?_eq_getElem hj]; rfl
theorem own_rdf {base n : Nat} {e : TypeId} (h : w.ownsRow base e 1 v n (xs.map (Value.int k))) (hok : ∀ b, base ≤ b → ok b) : Rdf k w ok v xs := fun w' hw => by
  refine (own_rd (base := base) (n := n) (e := e) ?_).1
  obtain ⟨h1, h2⟩ := h
  refine ⟨h1, ?_⟩
  rcases h2 with h2 | ⟨g, cap, cur, rfl, hg, hh, r⟩
  · exact .inl h2
  · exact .inr ⟨g, cap, cur, rfl, hg, (hw g (hok g hg) (blk_lt hh)).trans hh, r⟩
theorem one_ints (k : IntKind) (xs : List Int) : ∀ u ∈ xs.map (Value.int k), u.oneCell' = true := by
  intro u hu
  obtain ⟨x, _, rfl⟩ := List.mem_map.1 hu
  rfl
/-- Element i, its place. -/
theorem Rd.at_ {A : Option Addr} {n c : Nat} (h : Rd k w (.slice A n c) xs) {i : Nat} (hi : i < xs.length) : ∃ ad : Addr, A = some ad ∧ n = xs.length ∧ w.cell? (ad.add i) = some (.int k (xs.getD i 0)) := by
  obtain ⟨A', c', h1, h2, h3⟩ := h
  injection h1 with e1 e2 e3
  rcases h3 with rfl | ⟨ad, h4, h5⟩
  · simp at hi
  · exact ⟨ad, e1.trans h4, e2, h5 i hi⟩
end
end Go.Proofs.Ytikpdkgamcecjaa
