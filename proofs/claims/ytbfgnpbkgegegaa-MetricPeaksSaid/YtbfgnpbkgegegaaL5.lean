import Derived.Test.YtbfgnpbkgegegaaV8
import Derived.Test.YtbfgnpbkgegegaaF2
import Derived.Test.YtbfgnpbkgegegaaV3
namespace Go.Proofs.Ytbfgnpbkgegegaa
open Go.RowKit
set_option linter.unusedSimpArgs false
set_option linter.unusedVariables false

def stp (c : Int × Int) (x : Int) : Int × Int := (c.1 + x, max c.2 (c.1 + x))
def mt (xs : List Int) : Int × Int := xs.foldl stp (0, 0)
theorem stp_from (xs : List Int) : ∀ c : Int × Int, c.1 ≤ c.2 → xs.foldl stp c = (c.1 + (mt xs).1, max c.2 (c.1 + (mt xs).2)) ∧ (mt xs).1 ≤ (mt xs).2 ∧ 0 ≤ (mt xs).2 := by
  induction xs with
  | nil => intro c hc; refine ⟨?_, by simp [mt], by simp [mt]⟩; simp [mt]; ext <;> simp; omega
  | cons x xs ih =>
    intro c hc
    have h1 := ih (stp c x) (by simp only [stp]; omega)
    have h2 := ih (stp (0, 0) x) (by simp only [stp]; omega)
    have e : mt (x :: xs) = xs.foldl stp (stp (0, 0) x) := rfl
    rw [List.foldl_cons, h1.1, e, h2.1]
    obtain ⟨_, h3, h4⟩ := h1
    simp only [stp]
    refine ⟨?_, by omega, by omega⟩
    ext <;> simp <;> omega
theorem meters_mt {xs : List Int} (hw : xs.any wideB = false) (hl : xs.length ≤ 65536) : meters xs = mt xs := by
  have : ∀ k, k ≤ xs.length → meters (xs.take k) = mt (xs.take k) := by
    intro k
    induction k with
    | zero => intro _; simp [meters, mt]
    | succ k ih =>
      intro hk
      have hx : wideB xs[k] = false := by
        rw [List.any_eq_false] at hw
        simpa using hw xs[k] (List.getElem_mem _)
      rw [meters_snoc xs k (by omega), (meter_step (meters_take hw hl k (by omega)) (by omega) hx).1, ih (by omega)]
      rw [List.take_succ_eq_append_getElem (show k < xs.length by omega)]
      unfold mt; rw [List.foldl_append]; rfl
  have h := this xs.length (Nat.le_refl _)
  rwa [List.take_length] at h
theorem fold_mt {xs : List Int} (hw : xs.any wideB = false) (hl : xs.length ≤ 65536) : foldN xs = (mt xs).1 ∧ foldP xs = (mt xs).2 := by
  unfold foldN foldP
  rw [hw, meters_mt hw hl]
  simp; omega
theorem fits_mt {xs : List Int} (hw : xs.any wideB = false) (hl : xs.length ≤ 65536) : fitsB (mt xs).1 (mt xs).2 = true := by
  have h := meters_take hw hl xs.length (Nat.le_refl _)
  rw [List.take_length, meters_mt hw hl] at h
  obtain ⟨h1, h2, h3, h4, h5⟩ := h
  exact fitsB_of (by omega) (by omega) h3 (by omega) h5
theorem rows_pure {xs ys : List Int} (hw : (xs ++ ys).any wideB = false) (hx : xs.length ≤ 500) (hy : ys.length ≤ 500) :
    thenN (foldN xs) (foldP xs) (foldN ys) (foldP ys) = foldN (xs ++ ys) ∧ thenP (foldN xs) (foldP xs) (foldN ys) (foldP ys) = foldP (xs ++ ys) := by
  have hw' := hw
  rw [List.any_append, Bool.or_eq_false_iff] at hw'
  obtain ⟨w1, w2⟩ := hw'
  have f := fold_mt hw (by simp; omega)
  have f1 := fold_mt w1 (by omega)
  have f2 := fold_mt w2 (by omega)
  rw [f.1, f.2, f1.1, f1.2, f2.1, f2.2]
  have e : mt (xs ++ ys) = ys.foldl stp (mt xs) := by unfold mt; rw [List.foldl_append]
  rw [e, (stp_from ys _ (stp_from xs (0, 0) (Int.le_refl _)).2.1).1]
  unfold thenN thenP
  rw [fits_mt w1 (by omega), fits_mt w2 (by omega)]
  exact ⟨rfl, rfl⟩
theorem own_nil (w : World) (base : Nat) : w.ownsRow base 2 1 (.slice none 0 0) 0 [] := ⟨rfl, .inl ⟨rfl, rfl⟩⟩

set_option maxRecDepth 100000 in
set_option maxHeartbeats 4000000 in
theorem rows_walk (v u : Value) (xs ys : List Int) (w : World) (h : Rd .i64 w v xs) (h' : Rd .i64 w u ys) : Calls Try.prog 8 #[v, u] w fun e w' => e = .returned (.bool true) ∧ Below w.heap.size w w' := by
  obtain ⟨i0, hi0, hz0, hz1, hz2⟩ := info_parts info2
  have H := Lib.hid h
  have H' := Lib.hid h'
  obtain ⟨A, c, rfl, hl, hc⟩ := h
  obtain ⟨A', c', rfl, hl', hc'⟩ := h'
  clear hc hc'
  by_cases h1 : 500 < xs.length ∨ 500 < ys.length
  · go_enter Try.func8, Try.ntmps8
    rcases h1 with h1 | h1
    · go_wp2
      all_goals first | (exfalso; omega) | (go_ret; exact ⟨rfl, Below.refl _ _⟩)
    · go_wp2
      all_goals first | (exfalso; omega) | (go_ret; exact ⟨rfl, Below.refl _ _⟩)
  · have q1 : xs.length ≤ 500 := by omega
    have q2 : ys.length ≤ 500 := by omega
    clear h1
    obtain ⟨zs, hzs⟩ : ∃ zs, zs = xs ++ ys := ⟨_, rfl⟩
    have hzl : zs.length ≤ 1000 := by rw [hzs]; simp; omega
    have HZ := Lib.hid hzs
    clear hzs
    have R1 := Lib.hid H.out.reads.2
    have R2 := Lib.hid H'.out.reads.2
    go_enter Try.func8, Try.ntmps8
    go_wp2_with (first
      | (at_builtin
         refine wpList_append_any _ rfl (.const (.slice none 0 0)) (.tmp 15) _ rfl w.heap.size 2 i0 _ 1 8 Try.underlying22 hi0 hz0 hz1 hz2 rfl (by omega) (.slice none 0 0) 0 [] rfl
           (own_nil _ _) w.heap.size A xs.length c (xs.map (Value.int .i64)) rfl R1.out (one_ints _ _) (by simp only [maxLen]; omega) (by omega) (Nat.le_refl _) ?_
         intro v1 w1 hown1 hg1 hat1
         have hbw1 : Below w.heap.size w w1 := (Below.refl _ _).grown hg1 (Nat.le_refl _) (by simp [Value.ownBlock])
         have R21 := R2.out.below hbw1)
      | (at_builtin
         refine wpList_append_any _ rfl (.tmp 16) (.tmp 17) _ rfl w.heap.size 2 i0 _ 1 8 Try.underlying22 hi0 hz0 hz1 hz2 rfl (by omega) v1 (0 + xs.length) ([] ++ xs.map (Value.int .i64)) rfl
           hown1 w.heap.size A' ys.length c' (ys.map (Value.int .i64)) rfl R21 (one_ints _ _) (by simp only [maxLen]; omega) (by omega) hbw1.size ?_
         intro v2 w2 hown2 hg2 hat2
         have hbw2 : Below w.heap.size w w2 := hbw1.grown hg2 hbw1.size (fun g hg => by rcases hat1 with h9 | h9 <;> rw [h9] at hg <;> simp [Value.ownBlock] at hg <;> omega)
         have hown2' : w2.ownsRow w.heap.size 2 1 v2 (0 + xs.length + ys.length) (zs.map (Value.int .i64)) := by rw [HZ.out]; simpa using hown2
         have RZ := Lib.hid (own_rd hown2').1
         obtain ⟨Az, cz, rfl, hlz, hcz⟩ := (own_rd hown2').1
         have HCZ := Lib.hid hcz
         have HBW2 := Lib.hid hbw2
         clear hcz hown2' hown2 hat2 hat1 hg2 hg1 hown1 hbw1 hbw2 R21))
    go_loop [6, 20] (fun _ i => ∃ k : Nat, k ≤ zs.length ∧ i = .int .i64 k ∧ (zs.take k).any wideB = false) (fun _ i => zs.length - (intOf i).toNat)
    case atStart => exact ⟨0, Nat.zero_le _, rfl, by simp⟩
    case round =>
      obtain ⟨k, hk, rfl, hn⟩ := hrel
      have HN := Lib.hid hn
      clear hn
      by_cases hlt : k < zs.length
      · have hne : zs ≠ [] := by rintro rfl; simp at hlt
        obtain ⟨ad, rfl, hcell⟩ := HCZ.out.resolve_left hne
        have h1 := hcell k hlt
        have hs := Lib.hid (any_take_snoc wideB zs k hlt)
        obtain ⟨x, hx⟩ : ∃ x, x = zs.getD k 0 := ⟨_, rfl⟩
        rw [← hx] at h1 hs
        clear hcell hne hx
        cases hp : wideB x
        · obtain ⟨x1, x2⟩ := wide_no hp
          have HP := Lib.hid hp
          clear hp
          go_wp2
          all_goals first
            | (exfalso; omega)
            | (go_round
               case rel => exact ⟨k + 1, by omega, by go_num, by rw [hs.out, HN.out, HP.out]; rfl⟩
               case measure => simp [intOf]; omega)
        · have hx : x < -1099511627776 ∨ 1099511627776 < x := by unfold wideB at hp; simp at hp; omega
          clear hp
          go_wp2
          all_goals first
            | (exfalso; omega)
            | (go_ret; exact ⟨rfl, HBW2.out⟩)
      · have HW := Lib.hid (show (xs ++ ys).any wideB = false by
          have h9 := HN.out
          rw [List.take_of_length_le (by omega), HZ.out] at h9; exact h9)
        have HR1 := Lib.hid (R1.out.below HBW2.out)
        have HR2 := Lib.hid (R2.out.below HBW2.out)
        have hsz2 := HBW2.out.size
        obtain ⟨e1, e2⟩ := rows_pure HW.out q1 q2
        rw [← HZ.out] at e1 e2
        have T := Lib.hid (fun W => then_any (foldN xs) (foldP xs) (foldN ys) (foldP ys) W)
        rw [e1, e2] at T
        clear e1 e2
        go_wp2_with (first
          | (at_builtin
             refine wpList_append_any _ rfl (.const (.slice none 0 0)) (.tmp 31) _ rfl w2.heap.size 2 i0 _ 1 8 Try.underlying22 hi0 hz0 hz1 hz2 rfl (by omega) (.slice none 0 0) 0 [] rfl
               (own_nil _ _) w.heap.size A xs.length c (xs.map (Value.int .i64)) rfl (R1.out.below HBW2.out |>.more (Nat.le_refl _)) (one_ints _ _) (by simp only [maxLen]; omega) (by omega) (Nat.le_refl _) ?_
             intro v3 w3 hown3 hg3 hat3
             have hbw3 : Below w2.heap.size w2 w3 := (Below.refl _ _).grown hg3 (Nat.le_refl _) (by simp [Value.ownBlock])
             have hbw30 := bl_call HBW2.out hbw3
             have R23 := R2.out.below hbw30)
          | (at_builtin
             refine wpList_append_any _ rfl (.tmp 32) (.tmp 33) _ rfl w2.heap.size 2 i0 _ 1 8 Try.underlying22 hi0 hz0 hz1 hz2 rfl (by omega) v3 (0 + xs.length) ([] ++ xs.map (Value.int .i64)) rfl
               hown3 w.heap.size A' ys.length c' (ys.map (Value.int .i64)) rfl R23 (one_ints _ _) (by simp only [maxLen]; omega) (by omega) hbw3.size ?_
             intro v4 w4 hown4 hg4 hat4
             have hbw4 : Below w2.heap.size w2 w4 := hbw3.grown hg4 hbw3.size (fun g hg => by rcases hat3 with h9 | h9 <;> rw [h9] at hg <;> simp [Value.ownBlock] at hg <;> omega)
             have hown4' : w4.ownsRow w2.heap.size 2 1 v4 (0 + xs.length + ys.length) (zs.map (Value.int .i64)) := by rw [HZ.out]; simpa using hown4
             have RY := Lib.hid (own_rd hown4').1
             have HBW4 := Lib.hid (bl_call HBW2.out hbw4)
             obtain ⟨Ay, cy, rfl, hly, hcy⟩ := (own_rd hown4').1
             clear hcy hown4' hown4 hat4 hat3 hg4 hg3 hown3 hbw3 hbw4 hbw30 R23))
        refine (fold_any _ zs _ RY.out).mono ?_
        rintro e w5 ⟨rfl, hb5⟩
        have HB5 := Lib.hid (bl_call HBW4.out hb5)
        clear hb5
        go_wp2_with fail
        refine (fold_any _ xs _ (H.out.below HB5.out)).mono ?_
        rintro e w6 ⟨rfl, hb6⟩
        have HB6 := Lib.hid (bl_call HB5.out hb6)
        clear hb6
        go_wp2_with fail
        refine (fold_any _ ys _ (H'.out.below HB6.out)).mono ?_
        rintro e w7 ⟨rfl, hb7⟩
        have HB7 := Lib.hid (bl_call HB6.out hb7)
        clear hb7
        go_wp2_with fail
        refine (T.out _).mono ?_
        rintro e w8 ⟨rfl, hb8⟩
        have HB8 := Lib.hid (bl_call HB7.out hb8)
        clear hb8
        go_wp2_with fail
        refine (awake_any _).mono ?_
        rintro e w9 ⟨rfl, hb9⟩
        go_wp2_with fail
        go_ret
        exact ⟨rfl, bl_call HB8.out hb9⟩
theorem rows_row (v : Value) (xs : List Int) (u : Value) (ys : List Int) (w : World) (h : Rd .i64 w v xs) (h' : Rd .i64 w u ys) : Calls Try.prog 8 #[v, u] w fun e w' => e = .returned (.bool true) ∧ Below w.heap.size w w' := rows_walk v u xs ys w h h'
end Go.Proofs.Ytbfgnpbkgegegaa
