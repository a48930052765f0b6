import Derived.Test.YtbfgnpbkgegegaaV7
namespace Go.Proofs.Ytbfgnpbkgegegaa
open Go.RowKit
set_option linter.unusedSimpArgs false
set_option linter.unusedVariables false

theorem stack_valid : validM stackB stackF = true := by decide
theorem stack_cost : costM stackB stackF 9 2 = 1 ∧ costM stackB stackF 11 2 = -1 := by decide

set_option maxHeartbeats 2000000 in
theorem awake_any (w : World) : Calls Try.prog 17 #[] w fun e w' => e = .returned (.bool true) ∧ Below w.heap.size w w' := by
  have HM := Lib.hid (stack_any (fun _ => True) w (fun _ _ => trivial))
  go_enter Try.func17, Try.ntmps17
  go_wp2_with fail
  refine HM.out.mono ?_
  clear HM
  rintro e w1 ⟨r, rfl, ⟨b, f, rfl, hb, hf⟩, hb1⟩
  have HX1 := Lib.hid hb.now
  have HX2 := Lib.hid hf.now
  obtain ⟨A1, c1, rfl, hl1, hx1⟩ := hb.now
  obtain ⟨A2, c2, rfl, hl2, hx2⟩ := hf.now
  clear hx1 hx2 hl1 hl2 hb hf
  have HM : ∀ W, Below w1.heap.size w1 W → RdM W (.agg #[.slice A1 26 c1, .slice A2 26 c2]) stackB stackF := fun W hW => ⟨_, _, rfl, HX1.out.below hW, HX2.out.below hW⟩
  have HMM := Lib.hid HM
  clear HM
  go_wp2_with fail
  refine (valid_any _ stackB stackF _ ?_).mono ?_
  · exact HMM.out _ (by repeat (first | exact Below.refl _ _ | apply bl_alloc | (refine bl_set ?_ (by simp) _)))
  rw [stack_valid]
  rintro e w2 ⟨rfl, hb2⟩
  have HB2 := Lib.hid (show Below w1.heap.size w1 w2 from bl_call (by repeat (first | exact Below.refl _ _ | apply bl_alloc | (refine bl_set ?_ (by simp) _))) hb2)
  obtain ⟨hc2, hf2⟩ := bcell hb2
  have hz2 := hb2.size
  simp at hz2
  have hz3 : w1.heap.size < w2.heap.size := by omega
  go_wp2_with fail
  refine (cost_any _ stackB stackF 9 2 _ (HMM.out _ HB2.out)).mono ?_
  rw [stack_cost.1]
  rintro e w3 ⟨rfl, hb3⟩
  have HB3 := Lib.hid (bl_call HB2.out hb3)
  obtain ⟨hc3, hf3⟩ := bcell hb3
  go_wp2_with fail
  refine (cost_any _ stackB stackF 11 2 _ (HMM.out _ HB3.out)).mono ?_
  rw [stack_cost.2]
  rintro e w4 ⟨rfl, hb4⟩
  go_wp2_with fail
  go_ret
  exact ⟨rfl, bl_call (bl_call hb1 HB3.out) hb4⟩
end Go.Proofs.Ytbfgnpbkgegegaa
