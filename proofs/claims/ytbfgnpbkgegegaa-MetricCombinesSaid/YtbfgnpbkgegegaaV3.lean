import Derived.Test.YtbfgnpbkgegegaaV2
import Derived.Test.YtbfgnpbkgegegaaW0
namespace Go.Proofs.Ytbfgnpbkgegegaa
open Go.RowKit
set_option linter.unusedSimpArgs false
set_option linter.unusedVariables false

theorem info2 : (Try.prog.info? 2).map (fun i => (i.zero, i.size, i.bytes)) = some (some (.int .i64 0), 1, 8) := by kernel_rfl
set_option maxHeartbeats 1000000 in
theorem clone_any (ok : Nat → Prop) (v : Value) (xs : List Int) (w : World) (hok : ∀ b, w.heap.size ≤ b → ok b) (h : Rd .i64 w v xs) (hl : xs.length ≤ 1048576) :
    Calls Try.prog 50 #[v] w fun e w' => ∃ r, e = .returned r ∧ Rdf .i64 w' ok r xs ∧ Below w.heap.size w w' := by
  obtain ⟨i0, hi0, hz0, hz1, hz2⟩ := info_parts info2
  have H := Lib.hid h
  obtain ⟨A, c, rfl, _, hc⟩ := h
  clear hc
  have hr := H.out.reads.2
  cases A with
  | none =>
    have hxs : xs = [] := by
      have h9 := H.out
      obtain ⟨A', c', h1, _, h3⟩ := h9
      rcases h3 with h3 | ⟨ad, h4, _⟩
      · exact h3
      · injection h1 with e1; rw [← e1] at h4; cases h4
    have HX := Lib.hid hxs
    have hq := fun (w : World) (n c : Nat) => Lib.run_eql_slice_nil (P := Try.prog) w 22 2 none n c 0 0 Try.underlying22
    go_enter Try.func50, Try.ntmps50
    go_wp2
    go_ret
    exact ⟨_, rfl, by rw [HX.out]; exact Rdf.nil _ _ _ _, Below.refl _ _⟩
  | some ad =>
    have hq := fun (w : World) (n c : Nat) => Lib.run_eql_slice_nil (P := Try.prog) w 22 2 (some ad) n c 0 0 Try.underlying22
    have hr2 := Lib.hid (hr.alloc (Nat.le_refl _) (.cells #[] 2))
    have hown := Lib.hid (World.ownsRow_lit (base := w.heap.size) (e := 2) (size := 1) w #[] 0 (Nat.le_refl _) (by simp [maxLen]) (by simp))
    clear hr
    go_enter Try.func50, Try.ntmps50
    go_wp2_with (first
      | (at_builtin
         refine wpList_append_any _ rfl (.tmp 5) (.tmp 6) _ rfl w.heap.size 2 i0 _ 1 8 Try.underlying22 hi0 hz0 hz1 hz2 rfl (by omega) (.slice (some ⟨w.heap.size, 0, none⟩) 0 0) 0 [] rfl
           hown.out w.heap.size (some ad) xs.length c (xs.map (Value.int .i64)) rfl hr2.out (one_ints _ _) (by simp only [maxLen]; omega) (by omega) (by simp) ?_
         intro v1 w1 hown1 hg1 hat1
         have hbw1 : Below w.heap.size w w1 := ((Below.refl _ _).alloc (Nat.le_refl _) _).grown hg1 (by simp) (by simp [Value.ownBlock])))
    go_ret
    simp only [List.nil_append, Nat.zero_add] at hown1
    exact ⟨v1, rfl, own_rdf hown1 hok, hbw1⟩
end Go.Proofs.Ytbfgnpbkgegegaa
