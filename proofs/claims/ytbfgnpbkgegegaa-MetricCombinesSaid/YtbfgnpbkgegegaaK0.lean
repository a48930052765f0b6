import Derived.Test.YtbfgnpbkgegegaaRows
import Derived.Test.YtbfgnpbkgegegaaW1
import Derived.WalkKit
import Derived.WalkSpells
import Derived.Deep.QuietTactic
import Derived.BigQuiet
namespace Go.Proofs.Ytbfgnpbkgegegaa
open Go.RowKit
set_option linter.unusedSimpArgs false
set_option linter.unusedVariables false

def fitsB (n p : Int) : Bool := decide (-1152921504606846976 ≤ n ∧ n ≤ 1152921504606846976 ∧ 0 ≤ p ∧ p ≤ 1152921504606846976 ∧ n ≤ p)

set_option maxHeartbeats 1000000 in
theorem fits_any (n p : Int) (w : World) : Calls Try.prog 42 #[.agg #[.int .i64 n, .int .i64 p]] w fun e w' => e = .returned (.bool (fitsB n p)) ∧ Below w.heap.size w w' := by
  go_enter Try.func42, Try.ntmps42
  go_wp2
  all_goals go_ret
  all_goals refine ⟨?_, (Below.refl _ _).alloc (Nat.le_refl _) _⟩
  all_goals (refine congrArg (fun b => Ending.returned (.bool b)) ?_)
  all_goals (unfold fitsB; simp [*] <;> omega)

theorem fits_of {n p : Int} (h : fitsB n p = true) : -1152921504606846976 ≤ n ∧ n ≤ 1152921504606846976 ∧ 0 ≤ p ∧ p ≤ 1152921504606846976 ∧ n ≤ p := of_decide_eq_true h
def thenN (an ap bn bp : Int) : Int := if (fitsB an ap && fitsB bn bp) = true then an + bn else 0
def thenP (an ap bn bp : Int) : Int := if (fitsB an ap && fitsB bn bp) = true then max ap (an + bp) else 0

theorem thenB_false {an ap bn bp : Int} (h : (fitsB an ap && fitsB bn bp) = false) : thenN an ap bn bp = 0 ∧ thenP an ap bn bp = 0 := by
  unfold thenN thenP; rw [h]; simp
set_option maxHeartbeats 1000000 in
theorem then_any (an ap bn bp : Int) (w : World) : Calls Try.prog 21 #[.agg #[.int .i64 an, .int .i64 ap], .agg #[.int .i64 bn, .int .i64 bp]] w fun e w' => e = .returned (.agg #[.int .i64 (thenN an ap bn bp), .int .i64 (thenP an ap bn bp)]) ∧ Below w.heap.size w w' := by
  cases ha : fitsB an ap
  · obtain ⟨e1, e2⟩ := thenB_false (bn := bn) (bp := bp) (show (fitsB an ap && fitsB bn bp) = false by rw [ha]; rfl)
    rw [e1, e2]; clear e1 e2
    go_enter Try.func21, Try.ntmps21
    go_wp2_with fail
    refine (fits_any _ _ _).mono ?_
    rintro e w1 ⟨rfl, hb⟩
    obtain ⟨hc, hf⟩ := bcell hb
    have hz := hb.size
    go_wp2_with fail
    refine bodyPost_ret (v := .agg #[.int .i64 0, .int .i64 0]) (by simp [results, Try.results21, go_sem, hc, hz]) rfl ⟨rfl, ?_⟩
    repeat (first | exact Below.refl _ _ | apply bl_alloc | apply bl_drew | (refine bl_set ?_ (by simp <;> omega) _) | (refine bl_call ?_ (by assumption)))
  · cases hb : fitsB bn bp
    · obtain ⟨e1, e2⟩ := thenB_false (show (fitsB an ap && fitsB bn bp) = false by rw [ha, hb]; rfl)
      rw [e1, e2]; clear e1 e2
      go_enter Try.func21, Try.ntmps21
      go_wp2_with fail
      refine (fits_any _ _ _).mono ?_
      rintro e w1 ⟨rfl, hb1⟩
      obtain ⟨hc, hf⟩ := bcell hb1
      have hz := hb1.size
      go_wp2_with fail
      refine (fits_any _ _ _).mono ?_
      rintro e w2 ⟨rfl, hb2⟩
      obtain ⟨hc2, hf2⟩ := bcell hb2
      have hz2 := hb2.size
      simp at hz
      have g1 : w.heap.size < w1.heap.size := by omega
      have g2 : w.heap.size + 1 < w1.heap.size := by omega
      have g3 : w.heap.size + 1 + 1 < w1.heap.size := by omega
      go_wp2_with fail
      refine bodyPost_ret (v := .agg #[.int .i64 0, .int .i64 0]) (by simp [results, Try.results21, go_sem, hc, hc2, hz, hz2, g1, g2, g3]) rfl ⟨rfl, ?_⟩
      repeat (first | exact Below.refl _ _ | apply bl_alloc | apply bl_drew | (refine bl_set ?_ (by simp <;> omega) _) | (refine bl_call ?_ (by assumption)))
    · obtain ⟨a1, a2, a3, a4, a5⟩ := fits_of ha
      obtain ⟨b1, b2, b3, b4, b5⟩ := fits_of hb
      have e1 : thenN an ap bn bp = an + bn := by unfold thenN; rw [ha, hb]; rfl
      have e2 : thenP an ap bn bp = max ap (an + bp) := by unfold thenP; rw [ha, hb]; rfl
      rw [e1, e2]; clear e1 e2
      go_enter Try.func21, Try.ntmps21
      go_wp2_with fail
      refine (fits_any _ _ _).mono ?_
      rintro e w1 ⟨rfl, hb1⟩
      obtain ⟨hc, hf⟩ := bcell hb1
      have hz := hb1.size
      go_wp2_with fail
      refine (fits_any _ _ _).mono ?_
      rintro e w2 ⟨rfl, hb2⟩
      obtain ⟨hc2, hf2⟩ := bcell hb2
      have hz2 := hb2.size
      simp at hz
      have g1 : w.heap.size < w1.heap.size := by omega
      have g2 : w.heap.size + 1 < w1.heap.size := by omega
      have g3 : w.heap.size + 1 + 1 < w1.heap.size := by omega
      go_wp2_with fail
      all_goals refine bodyPost_ret (v := .agg #[.int .i64 (an + bn), .int .i64 (max ap (an + bp))]) (by simp [results, Try.results21, go_sem, hc, hc2, hz, hz2, g1, g2, g3]; try omega) rfl ⟨rfl, ?_⟩
      all_goals repeat (first | exact Below.refl _ _ | apply bl_alloc | apply bl_drew | (refine bl_set ?_ (by simp <;> omega) _) | (refine bl_call ?_ (by assumption)))
end Go.Proofs.Ytbfgnpbkgegegaa
