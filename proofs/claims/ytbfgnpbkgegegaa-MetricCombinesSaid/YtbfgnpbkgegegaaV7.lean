import Derived.Test.YtbfgnpbkgegegaaV6
namespace Go.Proofs.Ytbfgnpbkgegegaa
open Go.RowKit
set_option linter.unusedSimpArgs false
set_option linter.unusedVariables false

def stackB : List Int := [0, 0, 0, 0, 0, 0, 0, 0, 0, 1, 1, (-1), 0, 0, 0, 0, 0, 0, 0, 0, 0, 0, 0, 0, 0, (-1)]
def stackF : List Int := [0, 0, 0, 0, 0, 0, 0, 0, 0, 0, 0, 0, 0, 0, 0, 0, 0, 0, 0, 0, 0, 0, 0, 0, 0, 0]
set_option maxRecDepth 100000 in
set_option maxHeartbeats 2000000 in
theorem stack_any (ok : Nat → Prop) (w : World) (hok : ∀ b, w.heap.size ≤ b → ok b) :
    Calls Try.prog 24 #[] w fun e w' => ∃ r, e = .returned r ∧ RdMf w' ok r stackB stackF ∧ Below w.heap.size w w' := by
  have HOK := Lib.hid hok
  clear hok
  have HM := Lib.hid (made_any (fun b => ok b ∧ b ≠ w.heap.size) 0 0 0 0 0 0 0 0 0 1 1 (-1) 0 0 0 0 0 0 0 0 0 0 0 0 0 (-1) 0 0 0 0 0 0 0 0 0 0 0 0 0 0 0 0 0 0 0 0 0 0 0 0 0 0 (w.alloc (.cells #[.slice none 0 0, .slice none 0 0] 28)) (fun b hb => by simp at hb; exact ⟨HOK.out b (by omega), by omega⟩))
  go_enter Try.func24, Try.ntmps24
  go_wp2_with fail
  refine HM.out.mono ?_
  clear HM
  rintro e w1 ⟨r, rfl, ⟨b, f, rfl, hb, hf⟩, hbel⟩
  have HX1 := Lib.hid hb
  have HX2 := Lib.hid hf
  obtain ⟨A1, c1, rfl, hl1, hx1⟩ := hb.now
  obtain ⟨A2, c2, rfl, hl2, hx2⟩ := hf.now
  clear hx1 hx2 hl1 hl2 hb hf
  have g := blk_below (blk_new w (.cells #[.slice none 0 0, .slice none 0 0] 28)) hbel
  have m0 := blk_cell g 0
  have m1 := blk_cell g 1
  have m2 := blk_frozen g
  simp at m0 m1
  have HB := Lib.hid (bl_call (bl_alloc (Below.refl _ _) _) hbel)
  clear hbel g
  go_wp2_with fail
  refine bodyPost_ret (v := .agg #[.slice A1 26 c1, .slice A2 26 c2]) (by simp [results, Try.results24, go_sem, m0, m1]) rfl ⟨_, rfl, ⟨_, _, rfl, ?_, ?_⟩, ?_⟩
  · exact ((HX1.out.set (by simp) _).set (by simp) _).mono (fun b _ h => h.1)
  · exact ((HX2.out.set (by simp) _).set (by simp) _).mono (fun b _ h => h.1)
  · exact bl_set (bl_set HB.out (by simp) _) (by simp) _
end Go.Proofs.Ytbfgnpbkgegegaa
