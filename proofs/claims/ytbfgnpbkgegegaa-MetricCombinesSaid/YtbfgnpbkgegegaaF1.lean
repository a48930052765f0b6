import Derived.Test.YtbfgnpbkgegegaaK0
namespace Go.Proofs.Ytbfgnpbkgegegaa
open Go.RowKit
set_option linter.unusedSimpArgs false
set_option linter.unusedVariables false

def wideB (c : Int) : Bool := decide (c < -1099511627776) || decide (1099511627776 < c)
theorem wide_any (c : Int) (w : World) : Calls Try.prog 40 #[.int .i64 c] w fun e w' => e = .returned (.bool (wideB c)) ∧ w = w' := by
  go_enter Try.func40, Try.ntmps40
  go_wp2
  all_goals go_ret
  all_goals refine ⟨congrArg (fun b => Ending.returned (.bool b)) ?_, rfl⟩
  all_goals (unfold wideB; simp [*])

theorem any_take_snoc (p : Int → Bool) (xs : List Int) (k : Nat) (h : k < xs.length) : (xs.take (k + 1)).any p = ((xs.take k).any p || p (xs.getD k 0)) := by
  rw [List.take_succ_eq_append_getElem h, List.any_append]
  simp [List.getD_eq_getElem?_getD, List.getElem?_eq_getElem h]
theorem any_of_take (p : Int → Bool) (xs : List Int) (k : Nat) (h : (xs.take k).any p = true) : xs.any p = true := by
  rw [← List.take_append_drop k xs, List.any_append, h]; rfl
def PosSpec (p : Int → Bool) (xs : List Int) (e : Ending) : Prop := ∃ r : Int, e = .returned (.int .i64 r) ∧ decide (0 ≤ r) = xs.any p
set_option maxHeartbeats 1000000 in
theorem index_any40 (v : Value) (xs : List Int) (w : World) (h : Rd .i64 w v xs) :
    Calls Try.prog 49 #[v, .func (.func 40) #[] #[]] w fun e w' => PosSpec wideB xs e ∧ w = w' := by
  obtain ⟨A, c, rfl, hl, hc⟩ := h
  have HC := Lib.hid hc
  clear hc
  go_enter Try.func49, Try.ntmps49
  go_wp2
  go_loop [5, 8] (fun u i => ∃ k : Nat, k ≤ xs.length ∧ i = .int .i64 k ∧ (xs.take k).any wideB = false) (fun _ i => xs.length - (intOf i).toNat)
  case atStart => exact ⟨0, Nat.zero_le _, rfl, by simp⟩
  case round =>
    obtain ⟨k, hk, rfl, hn⟩ := hrel
    have HN := Lib.hid hn
    clear hn
    by_cases hlt : k < xs.length
    · have hne : xs ≠ [] := by rintro rfl; simp at hlt
      obtain ⟨ad, rfl, hcell⟩ := HC.out.resolve_left hne
      have h1 := hcell k hlt
      have hs := Lib.hid (any_take_snoc wideB xs k hlt)
      have hg : xs.getD k 0 = xs[k] := by simp [List.getD_eq_getElem?_getD, List.getElem?_eq_getElem hlt]
      clear hcell hne
      cases hp : wideB (xs.getD k 0)
      · rw [hg] at hp
        go_wp2_with (go_at_call 40; refine (wide_any _ _).mono ?_; rintro e w' ⟨rfl, rfl⟩)
        go_round
        case rel => exact ⟨k + 1, by omega, by go_num, by rw [hs.out, HN.out, hg, hp]; rfl⟩
        case measure => simp [intOf]; omega
      · rw [hg] at hp
        go_wp2_with (go_at_call 40; refine (wide_any _ _).mono ?_; rintro e w' ⟨rfl, rfl⟩)
        go_ret
        exact ⟨⟨k, rfl, by rw [any_of_take wideB xs (k + 1) (by rw [hs.out, HN.out, hg, hp]; rfl)]; simp⟩, rfl⟩
    · go_wp2
      go_ret
      exact ⟨⟨-1, rfl, by have h9 := HN.out; rw [List.take_of_length_le (by omega)] at h9; rw [h9]; rfl⟩, rfl⟩

theorem contains_any40 (v : Value) (xs : List Int) (w : World) (h : Rd .i64 w v xs) :
    Calls Try.prog 39 #[v, .func (.func 40) #[] #[]] w fun e w' => e = .returned (.bool (xs.any wideB)) ∧ w = w' := by
  go_enter Try.func39, Try.ntmps39
  go_wp2_with (go_at_call 49; refine (index_any40 _ _ _ h).mono ?_; rintro e w' ⟨⟨r, rfl, hr⟩, rfl⟩)
  go_ret
  exact ⟨rfl, rfl⟩

/-- The meter of a list: net and peak, cost by cost. -/
def meter (c : Int × Int) (x : Int) : Int × Int := (thenN c.1 c.2 x (max x 0), thenP c.1 c.2 x (max x 0))
def meters (xs : List Int) : Int × Int := xs.foldl meter (0, 0)
def foldN (xs : List Int) : Int := if (decide (65536 < xs.length) || xs.any wideB) = true then 0 else (meters xs).1
def foldP (xs : List Int) : Int := if (decide (65536 < xs.length) || xs.any wideB) = true then 0 else (meters xs).2
theorem meters_snoc (xs : List Int) (k : Nat) (h : k < xs.length) : meters (xs.take (k + 1)) = meter (meters (xs.take k)) xs[k] := by
  rw [List.take_succ_eq_append_getElem h]; unfold meters; rw [List.foldl_append]; rfl

set_option maxHeartbeats 2000000 in
theorem fold_any (v : Value) (xs : List Int) (w : World) (h : Rd .i64 w v xs) :
    Calls Try.prog 12 #[v] w fun e w' => e = .returned (.agg #[.int .i64 (foldN xs), .int .i64 (foldP xs)]) ∧ Below w.heap.size w w' := by
  by_cases h1 : 65536 < xs.length
  · have e1 : foldN xs = 0 := by unfold foldN; simp [h1]
    have e2 : foldP xs = 0 := by unfold foldP; simp [h1]
    rw [e1, e2]; clear e1 e2
    obtain ⟨A, c, rfl, hl, hc⟩ := h
    clear hc
    go_enter Try.func12, Try.ntmps12
    go_wp2_with fail
    refine bodyPost_ret (v := .agg #[.int .i64 0, .int .i64 0]) (by simp [results, Try.results12, go_sem]) rfl ⟨rfl, ?_⟩
    repeat (first | exact Below.refl _ _ | apply bl_alloc | apply bl_drew | (refine bl_set ?_ (by simp <;> omega) _) | (refine bl_call ?_ (by assumption)))
  · cases h2 : xs.any wideB
    · have e1 : foldN xs = (meters xs).1 := by unfold foldN; simp [h1, h2]
      have e2 : foldP xs = (meters xs).2 := by unfold foldP; simp [h1, h2]
      rw [e1, e2]; clear e1 e2
      have H := Lib.hid h
      obtain ⟨A, c, rfl, hl, hc⟩ := h
      have HC := Lib.hid hc
      clear hc
      have h3 : xs.length ≤ 65536 := by omega
      go_enter Try.func12, Try.ntmps12
      go_wp2_with (go_at_call 39; refine (contains_any40 _ xs _ (H.out.below (bl_alloc (Below.refl _ _) _))).mono ?_; rintro e w' ⟨rfl, rfl⟩)
      go_loopw [6, 17] (fun u i wr => ∃ k : Nat, k ≤ xs.length ∧ i = .int .i64 k ∧ Below w.heap.size w wr ∧
        wr.heap[w.heap.size]? = some (.cells #[.int .i64 0, .int .i64 0] 24 (0, 0)) ∧
        wr.heap[w.heap.size + 1]? = some (.cells #[.int .i64 (meters (xs.take k)).1, .int .i64 (meters (xs.take k)).2] 24 (0, 0))) (fun _ i _ => xs.length - (intOf i).toNat)
      case atStart => 
        refine ⟨0, Nat.zero_le _, rfl, ?_, ?_, ?_⟩
        · repeat (first | exact Below.refl _ _ | apply bl_alloc)
        · exact blk_alloc (blk_new _ _) _
        · exact blk_new' (by simp) _
      case round =>
        obtain ⟨k, hk, rfl, hb, g0, g1⟩ := hrel
        have hz := hb.size
        have l1 := blk_lt g1
        have m0 := blk_cell g1 0
        have m1 := blk_cell g1 1
        have mf := blk_frozen g1
        have G0 := Lib.hid g0
        have G1 := Lib.hid g1
        simp at m0 m1
        clear g0 g1
        by_cases hlt : k < xs.length
        · have hne : xs ≠ [] := by rintro rfl; simp at hlt
          obtain ⟨ad, rfl, hcell⟩ := HC.out.resolve_left hne
          have h1' : wr.cell? (ad.add k) = some (.int .i64 xs[k]) := by
            have h9 := hcell k hlt
            rw [show xs.getD k 0 = xs[k] by simp [List.getD_eq_getElem?_getD, List.getElem?_eq_getElem hlt]] at h9
            exact (hb.cell (World.block_lt_of_cell? w _ h9)).trans h9
          have hs := Lib.hid (meters_snoc xs k hlt)
          clear hcell hne
          go_wp2_with fail
          all_goals
            refine (then_any _ _ _ _ _).mono ?_
            rintro e w2 ⟨rfl, hb2⟩
            have J0 := Lib.hid (blk_below G0.out hb2)
            have J1 := Lib.hid (blk_below G1.out hb2)
            have n0 := blk_cell J1.out 0
            have n1 := blk_cell J1.out 1
            have nf := blk_frozen J1.out
            simp at n0 n1
            have HB2 := Lib.hid (bl_call hb hb2)
            clear hb2
            go_wp2_with fail
            go_roundw
            case measure => simp [intOf]; omega
            case rel =>
              refine ⟨k + 1, by omega, by go_num, ?_, ?_, ?_⟩
              · exact bl_set (bl_set HB2.out (by simp) _) (by simp) _
              · exact blk_far (blk_far J0.out (by simp) _) (by simp) _
              · have h7 := blk_set (blk_set J1.out 0 (.int .i64 (thenN (meters (xs.take k)).1 (meters (xs.take k)).2 xs[k] (max xs[k] 0)))) 1 (.int .i64 (thenP (meters (xs.take k)).1 (meters (xs.take k)).2 xs[k] (max xs[k] 0)))
                rw [hs.out]
                unfold meter
                first
                  | exact h7
                  | (have em : max xs[k] 0 = xs[k] := by omega
                     rw [em] at h7 ⊢; exact h7)
                  | (have em : max xs[k] 0 = 0 := by omega
                     rw [em] at h7 ⊢; exact h7)
        · obtain rfl : k = xs.length := by omega
          have m0' : wr.cell? ⟨w.heap.size, 0, none⟩ = some (.int .i64 0) := by rw [blk_cell G0.out 0]; rfl
          have m1' : wr.cell? ⟨w.heap.size, 1, none⟩ = some (.int .i64 0) := by rw [blk_cell G0.out 1]; rfl
          have mf' := blk_frozen G0.out
          rw [List.take_length] at m0 m1
          go_wp2_with fail
          refine bodyPost_ret (v := .agg #[.int .i64 (meters xs).1, .int .i64 (meters xs).2]) (by simp [results, Try.results12, go_sem, m0', m1']) rfl ⟨rfl, ?_⟩
          exact bl_set (bl_set hb (by simp) _) (by simp) _
    · have e1 : foldN xs = 0 := by unfold foldN; simp [h2]
      have e2 : foldP xs = 0 := by unfold foldP; simp [h2]
      rw [e1, e2]; clear e1 e2
      have H := Lib.hid h
      obtain ⟨A, c, rfl, hl, hc⟩ := h
      clear hc
      go_enter Try.func12, Try.ntmps12
      go_wp2_with (go_at_call 39; refine (contains_any40 _ xs _ (H.out.below (bl_alloc (Below.refl _ _) _))).mono ?_; rintro e w' ⟨rfl, rfl⟩)
      refine bodyPost_ret (v := .agg #[.int .i64 0, .int .i64 0]) (by simp [results, Try.results12, go_sem]) rfl ⟨rfl, ?_⟩
      repeat (first | exact Below.refl _ _ | apply bl_alloc | apply bl_drew | (refine bl_set ?_ (by simp <;> omega) _) | (refine bl_call ?_ (by assumption)))
end Go.Proofs.Ytbfgnpbkgegegaa
