import Derived.Test.YtbfgnpbkgegegaaC2
import Derived.Test.YtbfgnpbkgegegaaQ2
namespace Go.Proofs.Ytbfgnpbkgegegaa
open Go.RowKit
set_option linter.unusedSimpArgs false
set_option linter.unusedVariables false

/-- The weighted sum of the first k rows, at c. -/
def fS (proj : List Int × List Int → List Int) (ms : List (List Int × List Int)) (ws : List Int) : Nat → Nat → Int
  | 0, _ => 0
  | k + 1, c => fS proj ms ws k c + ws.getD k 0 * (proj (ms.getD k ([], []))).getD c 0
/-- The row while metric k is added: i elements are. -/
def row (f : Nat → Nat → Int) (k i : Nat) : List Int := (List.range 26).map (fun c => f (if c < i then k + 1 else k) c)
section
variable (f : Nat → Nat → Int) (k i : Nat)
theorem row_len : (row f k i).length = 26 := by simp [row]
theorem row_getD {c : Nat} (hc : c < 26) : (row f k i).getD c 0 = f (if c < i then k + 1 else k) c := by
  simp [row, List.getD_eq_getElem?_getD, List.getElem?_map, List.getElem?_range hc]
theorem row_at (hi : i < 26) : (row f k i).getD i 0 = f k i := by rw [row_getD f k i hi]; simp
theorem row_set (hi : i < 26) : row f k (i + 1) = (row f k i).set i (f (k + 1) i) := by
  apply List.ext_getElem
  · simp [row]
  · intro j h1 h2
    simp only [row, List.length_map, List.length_range] at h1
    rw [List.getElem_set]
    by_cases he : i = j
    · subst he; simp [row]
    · rw [if_neg he]
      simp only [row, List.getElem_map, List.getElem_range]
      have : (j < i + 1) = (j < i) := by apply propext; omega
      simp only [this]
theorem row_next : row f k 26 = row f (k + 1) 0 := by
  apply List.ext_getElem
  · simp [row]
  · intro j h1 h2
    simp only [row, List.length_map, List.length_range] at h1
    simp [row, h1]
end
theorem row_zero (proj : List Int × List Int → List Int) (ms : List (List Int × List Int)) (ws : List Int) : row (fS proj ms ws) 0 0 = freeB := by
  have : row (fS proj ms ws) 0 0 = (List.range 26).map (fun _ => (0 : Int)) := by simp [row, fS]
  rw [this]; decide
theorem row_zeroF (proj : List Int × List Int → List Int) (ms : List (List Int × List Int)) (ws : List Int) : row (fS proj ms ws) 0 0 = freeF := row_zero proj ms ws

/-- What holds of metrics that are valid and weights that are not too great. -/
theorem good_at {ms : List (List Int × List Int)} (hm : ms.any badM = false) {k : Nat} (hk : k < ms.length) : validM (ms.getD k ([], [])).1 (ms.getD k ([], [])).2 = true := by
  rw [List.any_eq_false] at hm
  have h := hm ms[k] (List.getElem_mem _)
  simp [badM] at h
  simpa [List.getD_eq_getElem?_getD, List.getElem?_eq_getElem hk] using h
theorem light_at {ws : List Int} (hw : ws.any heavyB = false) {k : Nat} (hk : k < ws.length) : -1000 ≤ ws.getD k 0 ∧ ws.getD k 0 ≤ 1000 := by
  rw [List.any_eq_false] at hw
  have h := hw ws[k] (List.getElem_mem _)
  simp [heavyB] at h
  simp [List.getD_eq_getElem?_getD, List.getElem?_eq_getElem hk]
  omega
theorem fS_bd (proj : List Int × List Int → List Int) {ms : List (List Int × List Int)} {ws : List Int} (hp : ∀ k c, k < ms.length → c < 26 → -1000 ≤ (proj (ms.getD k ([], []))).getD c 0 ∧ (proj (ms.getD k ([], []))).getD c 0 ≤ 1000)
    (hw : ∀ k, k < ms.length → -1000 ≤ ws.getD k 0 ∧ ws.getD k 0 ≤ 1000) {c : Nat} (hc : c < 26) : ∀ k, k ≤ ms.length → -(1000000 * (k : Int)) ≤ fS proj ms ws k c ∧ fS proj ms ws k c ≤ 1000000 * (k : Int) := by
  intro k
  induction k with
  | zero => intro _; simp [fS]
  | succ k ih =>
    intro hk
    obtain ⟨h1, h2⟩ := ih (by omega)
    obtain ⟨h3, h4⟩ := hp k c (by omega) hc
    obtain ⟨h5, h6⟩ := hw k (by omega)
    obtain ⟨h7, h8⟩ := mul_bd (a := 1000) (b := 1000) h5 h6 h3 h4
    simp only [fS]
    omega
def sumB (ms : List (List Int × List Int)) (ws : List Int) : List Int := row (fS Prod.fst ms ws) ms.length 0
def sumF (ms : List (List Int × List Int)) (ws : List Int) : List Int := row (fS Prod.snd ms ws) ms.length 0
def combE (ms : List (List Int × List Int)) (ws : List Int) : Int :=
  if ms.any badM = true then 10 else if ms.length ≠ ws.length ∨ ws.any heavyB = true then 8 else if (sumB ms ws ++ sumF ms ws).any heavyB = true then 9 else if validM (sumB ms ws) (sumF ms ws) = false then 10 else 0
def combB (ms : List (List Int × List Int)) (ws : List Int) : List Int := if combE ms ws = 0 then sumB ms ws else []
def combF (ms : List (List Int × List Int)) (ws : List Int) : List Int := if combE ms ws = 0 then sumF ms ws else []
theorem comb_err {ms : List (List Int × List Int)} {ws : List Int} {e : Int} (h : combE ms ws = e) (he : e ≠ 0) : combB ms ws = [] ∧ combF ms ws = [] := by
  unfold combB combF; rw [h, if_neg he, if_neg he]; exact ⟨rfl, rfl⟩
theorem rdm_nil (w : World) : RdM w (.agg #[.slice none 0 0, .slice none 0 0]) [] [] := ⟨_, _, rfl, rd_nil _ _ _, rd_nil _ _ _⟩
/-- All that the sums' loops need. -/
structure Sums (ms : List (List Int × List Int)) (ws : List Int) : Prop where
  len : ms.length = ws.length
  wgt : ∀ k, k < ms.length → -1000 ≤ ws.getD k 0 ∧ ws.getD k 0 ≤ 1000
  rows : ∀ k, k < ms.length → (ms.getD k ([], [])).1.length = 26 ∧ (ms.getD k ([], [])).2.length = 26
  stepB : ∀ k c, k < ms.length → c < 26 → fS Prod.fst ms ws (k + 1) c = fS Prod.fst ms ws k c + ws.getD k 0 * (ms.getD k ([], [])).1.getD c 0 ∧ -100000000 ≤ fS Prod.fst ms ws k c ∧ fS Prod.fst ms ws k c ≤ 100000000 ∧ -1000000 ≤ ws.getD k 0 * (ms.getD k ([], [])).1.getD c 0 ∧ ws.getD k 0 * (ms.getD k ([], [])).1.getD c 0 ≤ 1000000
  stepF : ∀ k c, k < ms.length → c < 26 → fS Prod.snd ms ws (k + 1) c = fS Prod.snd ms ws k c + ws.getD k 0 * (ms.getD k ([], [])).2.getD c 0 ∧ -100000000 ≤ fS Prod.snd ms ws k c ∧ fS Prod.snd ms ws k c ≤ 100000000 ∧ -1000000 ≤ ws.getD k 0 * (ms.getD k ([], [])).2.getD c 0 ∧ ws.getD k 0 * (ms.getD k ([], [])).2.getD c 0 ≤ 1000000
theorem sums_of {ms : List (List Int × List Int)} {ws : List Int} (hl : ms.length ≤ 100) (hm : ms.any badM = false) (hlen : ms.length = ws.length) (hw : ws.any heavyB = false) : Sums ms ws := by
  have W : ∀ k, k < ms.length → -1000 ≤ ws.getD k 0 ∧ ws.getD k 0 ≤ 1000 := fun k hk => light_at hw (by omega)
  have V := fun k (hk : k < ms.length) => valid_parts (good_at hm hk)
  have bB := fun c (hc : c < 26) => fS_bd Prod.fst (ms := ms) (ws := ws) (fun k c hk hc => ⟨((V k hk).2.2.1 c hc).1, ((V k hk).2.2.1 c hc).2.1⟩) W hc
  have bF := fun c (hc : c < 26) => fS_bd Prod.snd (ms := ms) (ws := ws) (fun k c hk hc => ⟨((V k hk).2.2.1 c hc).2.2.1, ((V k hk).2.2.1 c hc).2.2.2⟩) W hc
  refine ⟨hlen, W, fun k hk => ⟨(V k hk).1, (V k hk).2.1⟩, fun k c hk hc => ?_, fun k c hk hc => ?_⟩
  · obtain ⟨h1, h2⟩ := bB c hc k (by omega)
    obtain ⟨h3, h4⟩ := W k hk
    obtain ⟨h5, h6⟩ := mul_bd (a := 1000) (b := 1000) h3 h4 ((V k hk).2.2.1 c hc).1 ((V k hk).2.2.1 c hc).2.1
    refine ⟨rfl, by omega, by omega, by omega, by omega⟩
  · obtain ⟨h1, h2⟩ := bF c hc k (by omega)
    obtain ⟨h3, h4⟩ := W k hk
    obtain ⟨h5, h6⟩ := mul_bd (a := 1000) (b := 1000) h3 h4 ((V k hk).2.2.1 c hc).2.2.1 ((V k hk).2.2.1 c hc).2.2.2
    refine ⟨rfl, by omega, by omega, by omega, by omega⟩
theorem freeF_eq : freeF = freeB := rfl
/-- The sums under way: the result's block, the sum's variable, its two rows. -/
def CSt (w : World) (gm g1 g2 c1 c2 : Nat) (B F : List Int) (wr : World) : Prop :=
  Below w.heap.size w wr ∧ wr.heap[w.heap.size]? = some (.cells #[.slice none 0 0, .slice none 0 0] 28 (0, 0)) ∧ wr.heap[gm]? = some (.cells #[.slice (some ⟨g1, 0, none⟩) 26 c1, .slice (some ⟨g2, 0, none⟩) 26 c2] 28 (0, 0)) ∧ Own wr g1 B ∧ Own wr g2 F
def CDis (w : World) (gm g1 g2 : Nat) : Prop := w.heap.size ≤ g1 ∧ w.heap.size ≤ g2 ∧ g1 ≠ w.heap.size ∧ g2 ≠ w.heap.size ∧ g1 ≠ gm ∧ g2 ≠ gm ∧ g1 ≠ g2
section
variable {w wr : World} {gm g1 g2 c1 c2 : Nat} {B F : List Int}
theorem CSt.alloc (h : CSt w gm g1 g2 c1 c2 B F wr) (o : Obj) : CSt w gm g1 g2 c1 c2 B F (wr.alloc o) := by
  obtain ⟨h1, h2, h3, h4, h5⟩ := h
  exact ⟨bl_alloc h1 _, blk_alloc h2 _, blk_alloc h3 _, h4.alloc _, h5.alloc _⟩
theorem CSt.drew (h : CSt w gm g1 g2 c1 c2 B F wr) : CSt w gm g1 g2 c1 c2 B F wr.drew := by
  obtain ⟨h1, h2, h3, h4, h5⟩ := h
  exact ⟨bl_drew h1, h2, h3, h4.drew, h5.drew⟩
theorem CSt.set1 (h : CSt w gm g1 g2 c1 c2 B F wr) (hd : CDis w gm g1 g2) {i : Nat} (hi : i < B.length) (x : Int) : CSt w gm g1 g2 c1 c2 (B.set i x) F (wr.setCell ⟨g1, i, none⟩ (.int .i64 x)) := by
  obtain ⟨h1, h2, h3, h4, h5⟩ := h
  obtain ⟨d1, d2, d3, d4, d5, d6, d7⟩ := hd
  exact ⟨bl_set h1 d1 _, blk_far h2 (fun e => d3 e.symm) _, blk_far h3 (fun e => d5 e.symm) _, h4.set hi _, h5.far (fun e => d7 e.symm) _⟩
theorem CSt.set2 (h : CSt w gm g1 g2 c1 c2 B F wr) (hd : CDis w gm g1 g2) {i : Nat} (hi : i < F.length) (x : Int) : CSt w gm g1 g2 c1 c2 B (F.set i x) (wr.setCell ⟨g2, i, none⟩ (.int .i64 x)) := by
  obtain ⟨h1, h2, h3, h4, h5⟩ := h
  obtain ⟨d1, d2, d3, d4, d5, d6, d7⟩ := hd
  exact ⟨bl_set h1 d2 _, blk_far h2 (fun e => d4 e.symm) _, blk_far h3 (fun e => d6 e.symm) _, h4.far d7 _, h5.set hi _⟩
end
end Go.Proofs.Ytbfgnpbkgegegaa
