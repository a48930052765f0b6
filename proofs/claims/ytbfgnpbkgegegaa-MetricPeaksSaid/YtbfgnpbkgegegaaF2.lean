import Derived.Test.YtbfgnpbkgegegaaF1
namespace Go.Proofs.Ytbfgnpbkgegegaa
open Go.RowKit
set_option linter.unusedSimpArgs false
set_option linter.unusedVariables false

theorem fitsB_of {n p : Int} (h1 : -1152921504606846976 ≤ n) (h2 : n ≤ 1152921504606846976) (h3 : 0 ≤ p) (h4 : p ≤ 1152921504606846976) (h5 : n ≤ p) : fitsB n p = true := decide_eq_true ⟨h1, h2, h3, h4, h5⟩
theorem wide_no {c : Int} (h : wideB c = false) : -1099511627776 ≤ c ∧ c ≤ 1099511627776 := by
  unfold wideB at h; simp at h; omega
/-- What holds of the meter of k costs that are not wide. -/
def Okm (k : Nat) (c : Int × Int) : Prop := -1099511627776 * (k : Int) ≤ c.1 ∧ c.1 ≤ 1099511627776 * (k : Int) ∧ 0 ≤ c.2 ∧ c.2 ≤ 1099511627776 * (k : Int) ∧ c.1 ≤ c.2
theorem meter_step {k : Nat} {c : Int × Int} {x : Int} (h : Okm k c) (hk : k < 65536) (hx : wideB x = false) : meter c x = (c.1 + x, max c.2 (c.1 + x)) ∧ Okm (k + 1) (meter c x) := by
  obtain ⟨h1, h2, h3, h4, h5⟩ := h
  obtain ⟨x1, x2⟩ := wide_no hx
  have f1 : fitsB c.1 c.2 = true := fitsB_of (by omega) (by omega) h3 (by omega) h5
  have f2 : fitsB x (max x 0) = true := fitsB_of (by omega) (by omega) (by omega) (by omega) (by omega)
  have e : meter c x = (c.1 + x, max c.2 (c.1 + x)) := by
    unfold meter thenN thenP
    rw [f1, f2]
    simp only [Bool.and_self, if_true]
    congr 1
    omega
  refine ⟨e, ?_⟩
  rw [e]
  unfold Okm
  simp only
  refine ⟨?_, ?_, ?_, ?_, ?_⟩ <;> omega
theorem meters_take {xs : List Int} (hw : xs.any wideB = false) (hl : xs.length ≤ 65536) : ∀ k, k ≤ xs.length → Okm k (meters (xs.take k)) := by
  intro k
  induction k with
  | zero => intro _; simp [meters, Okm]
  | succ k ih =>
    intro hk
    have hx : wideB xs[k] = false := by
      rw [List.any_eq_false] at hw
      simpa using hw xs[k] (List.getElem_mem _)
    rw [meters_snoc xs k (by omega)]
    exact (meter_step (ih (by omega)) (by omega) hx).2

set_option maxHeartbeats 2000000 in
theorem rfold_any (v : Value) (xs : List Int) (w : World) (h : Rd .i64 w v xs) :
    Calls Try.prog 13 #[v] w fun e w' => e = .returned (.agg #[.int .i64 (foldN xs), .int .i64 (foldP xs)]) ∧ Below w.heap.size w w' := by
  by_cases h1 : 65536 < xs.length
  · have e1 : foldN xs = 0 := by unfold foldN; simp [h1]
    have e2 : foldP xs = 0 := by unfold foldP; simp [h1]
    rw [e1, e2]; clear e1 e2
    obtain ⟨A, c, rfl, hl, hc⟩ := h
    clear hc
    go_enter Try.func13, Try.ntmps13
    go_wp2_with fail
    refine bodyPost_ret (v := .agg #[.int .i64 0, .int .i64 0]) (by simp [results, Try.results13, go_sem]) rfl ⟨rfl, ?_⟩
    repeat (first | exact Below.refl _ _ | apply bl_alloc | apply bl_drew | (refine bl_set ?_ (by simp <;> omega) _) | (refine bl_call ?_ (by assumption)))
  · obtain ⟨A, c, rfl, hl, hc⟩ := h
    have HC := Lib.hid hc
    clear hc
    have h3 : xs.length ≤ 65536 := by omega
    have H1 := Lib.hid h1
    clear h1
    go_enter Try.func13, Try.ntmps13
    go_wp2_with fail
    go_loopw [5, 13] (fun u i wr => ∃ k : Nat, k ≤ xs.length ∧ i = .int .i64 k ∧ Below w.heap.size w wr ∧ (xs.take k).any wideB = false ∧ Okm k (meters (xs.take k)) ∧
        wr.heap[w.heap.size]? = some (.cells #[.int .i64 0, .int .i64 0] 24 (0, 0)) ∧
        wr.heap[w.heap.size + 1]? = some (.cells #[.int .i64 (meters (xs.take k)).1, .int .i64 (meters (xs.take k)).2] 24 (0, 0))) (fun _ i _ => xs.length - (intOf i).toNat)
    case atStart =>
      refine ⟨0, Nat.zero_le _, rfl, ?_, by simp, by simp [Okm, meters], ?_, ?_⟩
      · repeat (first | exact Below.refl _ _ | apply bl_alloc | (refine bl_set ?_ (by simp <;> omega) _))
      · first | exact blk_alloc (blk_new _ _) _ | exact blk_far (blk_far (blk_alloc (blk_new _ _) _) (by simp) _) (by simp) _
      · first | exact blk_new' (by simp) _ | exact blk_set (blk_set (blk_new' (by simp) _) 0 _) 1 _
    case round =>
      obtain ⟨k, hk, rfl, hb, hn, hok, g0, g1⟩ := hrel
      have hz := hb.size
      have l1 := blk_lt g1
      have l0 := blk_lt g0
      have m0 := blk_cell g1 0
      have m1 := blk_cell g1 1
      have mf := blk_frozen g1
      have q0 := blk_cell g0 0
      have q1 := blk_cell g0 1
      have qf := blk_frozen g0
      have G0 := Lib.hid g0
      have G1 := Lib.hid g1
      have HN := Lib.hid hn
      simp at m0 m1 q0 q1
      clear g0 g1 hn
      by_cases hlt : k < xs.length
      · have hne : xs ≠ [] := by rintro rfl; simp at hlt
        obtain ⟨ad, rfl, hcell⟩ := HC.out.resolve_left hne
        have hg : xs.getD k 0 = xs[k] := by simp [List.getD_eq_getElem?_getD, List.getElem?_eq_getElem hlt]
        have h1' : wr.cell? (ad.add k) = some (.int .i64 xs[k]) := by
          have h9 := hcell k hlt
          rw [hg] at h9
          exact (hb.cell (World.block_lt_of_cell? w _ h9)).trans h9
        have hs := Lib.hid (meters_snoc xs k hlt)
        have hat := Lib.hid (any_take_snoc wideB xs k hlt)
        clear hcell hne
        cases hw : wideB xs[k]
        · obtain ⟨x1, x2⟩ := wide_no hw
          have HS := Lib.hid (meter_step hok (by omega) hw)
          obtain ⟨o1, o2, o3, o4, o5⟩ := hok
          go_wp2_with fail
          all_goals first
            | (exfalso; omega)
            | (go_roundw
               case measure => simp [intOf]; omega
               case rel =>
                 refine ⟨k + 1, by omega, by go_num, ?_, ?_, ?_, ?_, ?_⟩
                 · exact bl_set (bl_set hb (by simp) _) (by simp) _
                 · rw [hat.out, HN.out, hg, hw]; rfl
                 · rw [hs.out]; exact HS.out.2
                 · exact blk_far (blk_far G0.out (by simp) _) (by simp) _
                 · have h7 := blk_set (blk_set G1.out 0 (.int .i64 ((meters (xs.take k)).1 + xs[k]))) 1 (.int .i64 (max (meters (xs.take k)).2 ((meters (xs.take k)).1 + xs[k])))
                   rw [hs.out, HS.out.1]
                   simp only
                   have em : max (meters (xs.take k)).2 ((meters (xs.take k)).1 + xs[k]) = if (meters (xs.take k)).2 < (meters (xs.take k)).1 + xs[k] then (meters (xs.take k)).1 + xs[k] else (meters (xs.take k)).2 := by split <;> omega
                   rw [em] at h7 ⊢
                   exact h7)
        · have e1 := Lib.hid <| show foldN xs = 0 by unfold foldN; rw [any_of_take wideB xs (k + 1) (by rw [hat.out, HN.out, hg, hw]; rfl)]; simp
          have e2 := Lib.hid <| show foldP xs = 0 by unfold foldP; rw [any_of_take wideB xs (k + 1) (by rw [hat.out, HN.out, hg, hw]; rfl)]; simp
          have hw2 : xs[k] < -1099511627776 ∨ 1099511627776 < xs[k] := by unfold wideB at hw; simpa using hw
          go_wp2_with fail
          all_goals first
            | (exfalso; omega)
            | (refine bodyPost_ret (v := .agg #[.int .i64 0, .int .i64 0]) (by simp [results, Try.results13, go_sem, q0, q1]) rfl ⟨by rw [e1.out, e2.out], ?_⟩
               exact bl_set (bl_set hb (by simp) _) (by simp) _)
      · obtain rfl : k = xs.length := by omega
        have hno : xs.any wideB = false := by have h9 := HN.out; rwa [List.take_length] at h9
        have e1 := Lib.hid <| show foldN xs = (meters xs).1 by unfold foldN; simp [hno, H1.out]
        have e2 := Lib.hid <| show foldP xs = (meters xs).2 by unfold foldP; simp [hno, H1.out]
        clear hno
        rw [List.take_length] at m0 m1
        go_wp2_with fail
        refine bodyPost_ret (v := .agg #[.int .i64 (meters xs).1, .int .i64 (meters xs).2]) (by simp [results, Try.results13, go_sem, q0, q1]) rfl ⟨by rw [e1.out, e2.out], ?_⟩
        exact bl_set (bl_set hb (by simp) _) (by simp) _
end Go.Proofs.Ytbfgnpbkgegegaa
