import Derived.Test.YtbfgnpbkgegegaaV9
import Derived.Test.YtbfgnpbkgegegaaO0
namespace Go.Proofs.Ytbfgnpbkgegegaa
open Go.ChangeShapes Go.WideShapes Go.ChangeAt Go.RowKit Go.Joins
theorem open_metric {H : Type} {enc : TypeId × Value → H} {w : World} {base b0 : Nat} {held : Bool} {r : Reach} {v : Value} {d : DataW H} {p : List MemPlace}
    (hv : Value.okWide Try.prog w r b0 28 v) (h : DataW.Trod enc Try.prog w base (fun _ => true) held 28 v d p) : ∃ m : List Int × List Int, RdM w v m.1 m.2 := by
  obtain ⟨v0, v1, y0, y1, n, rfl, _, _, h0, h1⟩ := open_agg2 Try.underlying28 (by kernel_rfl) (by kernel_rfl) hv h
  obtain ⟨xs, hx, _⟩ := open_rd Try.underlying22 Try.underlying2 (by kernel_rfl) h0
  obtain ⟨ys, hy, _⟩ := open_rd Try.underlying22 Try.underlying2 (by kernel_rfl) h1
  exact ⟨(xs, ys), v0, v1, rfl, hx, hy⟩
end Go.Proofs.Ytbfgnpbkgegegaa
