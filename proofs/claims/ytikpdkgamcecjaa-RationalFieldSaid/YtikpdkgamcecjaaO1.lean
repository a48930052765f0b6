/- An argument that is a number, opened: how it reads, and that its limbs are uint32. -/
import Derived.Test.YtikpdkgamcecjaaR13
import Derived.Test.YtikpdkgamcecjaaO0
namespace Go.Proofs.Ytikpdkgamcecjaa
open Go.ChangeShapes Go.WideShapes Go.ChangeAt Go.RowKit Go.Joins
/-- A number in memory whose limbs are uint32. -/
def RdU (w : World) (v : Value) (r : Raw) : Prop := RdR w v r ∧ U32 r.num ∧ U32 r.den
theorem u32_wf {xs : List Int} (h : ∀ n ∈ xs, (Lit.int .u32 n).wf = true) : U32 xs := by
  intro j hj
  have h1 := h (xs.getD j 0) (by
    rw [List.getD_eq_getElem?_getD, List.getElem?_eq_getElem hj]
    exact List.getElem_mem _)
  have e1 : IntKind.u32.min = 0 := rfl
  have e2 : IntKind.u32.max = 4294967295 := rfl
  simp only [Lit.wf, Bool.and_eq_true, decide_eq_true_eq, e1, e2] at h1
  omega
theorem open_rat {H : Type} {enc : TypeId × Value → H} {w : World} {base b0 : Nat} {held : Bool} {r : Reach} {v : Value} {d : DataW H} {p : List MemPlace}
    (hv : Value.okWide Try.prog w r b0 24 v) (h : DataW.Trod enc Try.prog w base (fun _ => true) held 24 v d p) : ∃ m : Raw, RdU w v m := by
  obtain ⟨v0, v1, v2, y0, y1, y2, n, rfl, _, _, h0, h1, h2⟩ := open_agg3 Try.underlying24 (by kernel_rfl) (by kernel_rfl) hv h
  obtain ⟨xs, hx, wx⟩ := open_rd Try.underlying22 Try.underlying43 (by kernel_rfl) h1
  obtain ⟨ys, hy, wy⟩ := open_rd Try.underlying22 Try.underlying43 (by kernel_rfl) h2
  obtain ⟨b, hb, _⟩ := DataW.trod_bool Try.underlying4 h0
  injection hb with hb
  subst hb
  exact ⟨⟨b, xs, ys⟩, ⟨_, _, rfl, hx.foot, hy.foot⟩, u32_wf wx, u32_wf wy⟩
end Go.Proofs.Ytikpdkgamcecjaa
