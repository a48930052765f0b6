/- Walks of the reference: Canonical. -/
import Derived.Test.YtikpdkgamcecjaaN11
namespace Go.Proofs.Ytikpdkgamcecjaa
open Go.RowKit
set_option linter.unusedSimpArgs false
set_option linter.unusedVariables false

set_option maxHeartbeats 4000000 in
theorem rcanon_any (ok : Nat → Prop) (v : Value) (r : Raw) (w : World) (hok : ∀ b, w.heap.size ≤ b → ok b) (h : RdR w v r) (hg : Good 1000000 r) :
    Calls Try.prog 49 #[v] w fun e w' => ∃ z, e = .returned z ∧ RdRaw w' ok z (raw (qv r)) ∧ Below w.heap.size w w' := by
  obtain ⟨n, d, rfl, hn, hd⟩ := h
  obtain ⟨neg, xs, ys⟩ := r
  obtain ⟨g1, g2, g3, g4⟩ := hg
  simp only at hn hd g1 g2 g3 g4 ⊢
  have HQ := Lib.hid (show mkRat (sg neg (val xs).toNat) (val ys).toNat = qv ⟨neg, xs, ys⟩ from rfl)
  have HBU := Lib.hid (fun W hok h1 h2 => build_any (fun x => ok x ∧ x ≠ w.heap.size + 1) neg n d xs ys W hok h1 h2 g1 g2 g3 g4)
  rw [HQ.out] at HBU
  have HN := Lib.hid hn.now
  have HD := Lib.hid hd.now
  have HOK := Lib.hid hok
  obtain ⟨A1, c1, rfl, _, _⟩ := hn.len
  obtain ⟨A2, c2, rfl, _, _⟩ := hd.len
  clear hn hd hok g1 g2
  go_enter Try.func49, Try.ntmps49
  go_wp2_with fail
  have HA := Lib.hid (show Below w.heap.size w ((w.alloc (.cells #[.bool neg, .slice A1 xs.length c1, .slice A2 ys.length c2] 24)).alloc (.cells #[.bool false, .slice none 0 0, .slice none 0 0] 24)) from bl_alloc (bl_alloc (Below.refl _ _) _) _)
  refine (HBU.out _ ?_ (HN.out.below HA.out) (HD.out.below HA.out)).mono ?_
  · intro b hb
    simp at hb
    exact ⟨HOK.out b (by omega), by omega⟩
  rintro e w1 ⟨z, rfl, ⟨n3, d3, rfl, hn3, hd3⟩, hb1⟩
  have HN3 := Lib.hid hn3
  have HD3 := Lib.hid hd3
  have g := blk_below (blk_new' (w := w.alloc (.cells #[.bool neg, .slice A1 xs.length c1, .slice A2 ys.length c2] 24)) (g := w.heap.size + 1) (by simp) (.cells #[.bool false, .slice none 0 0, .slice none 0 0] 24)) hb1
  have m0 := blk_cell g 0
  have m1 := blk_cell g 1
  have m2 := blk_cell g 2
  have mf := blk_frozen g
  simp at m0 m1 m2
  have HB := Lib.hid (bl_call HA.out hb1)
  obtain ⟨A5, c5, rfl, _, _⟩ := hn3.len
  obtain ⟨A6, c6, rfl, _, _⟩ := hd3.len
  clear hn3 hd3 hb1 g
  go_wp2_with fail
  refine bodyPost_ret (v := .agg #[.bool (raw (qv ⟨neg, xs, ys⟩)).neg, .slice A5 (raw (qv ⟨neg, xs, ys⟩)).num.length c5, .slice A6 (raw (qv ⟨neg, xs, ys⟩)).den.length c6]) (by simp [results, Try.results49, go_sem, m0, m1, m2]) rfl ⟨_, rfl, ?_, ?_⟩
  · refine ⟨_, _, rfl, ?_, ?_⟩
    · exact (((HN3.out.set (fun h => h.2 rfl) _).set (fun h => h.2 rfl) _).set (fun h => h.2 rfl) _).mono (fun b _ h => h.1)
    · exact (((HD3.out.set (fun h => h.2 rfl) _).set (fun h => h.2 rfl) _).set (fun h => h.2 rfl) _).mono (fun b _ h => h.1)
  · exact bl_set (bl_set (bl_set HB.out (by simp) _) (by simp) _) (by simp) _
end Go.Proofs.Ytikpdkgamcecjaa
