import Derived.Test.YtbfgnpbkgegegaaL4
import Derived.Test.YtbfgnpbkgegegaaO0
namespace Go.Proofs.Ytbfgnpbkgegegaa
open Go.ChangeShapes Go.WideShapes Go.ChangeAt Go.RowKit Go.Joins
theorem open_meter {H : Type} {enc : TypeId × Value → H} {w : World} {base b0 : Nat} {held : Bool} {r : Reach} {v : Value} {d : DataW H} {p : List MemPlace}
    (hv : Value.okWide Try.prog w r b0 24 v) (h : DataW.Trod enc Try.prog w base (fun _ => true) held 24 v d p) : ∃ m : Int × Int, v = .agg #[.int .i64 m.1, .int .i64 m.2] := by
  obtain ⟨v0, v1, y0, y1, n, rfl, _, _, h0, h1⟩ := open_agg2 Try.underlying24 (by kernel_rfl) (by kernel_rfl) hv h
  obtain ⟨x, hx, _, _⟩ := DataW.trod_int Try.underlying2 h0
  obtain ⟨y, hy, _, _⟩ := DataW.trod_int Try.underlying2 h1
  injection hx with hx
  injection hy with hy
  subst hx; subst hy
  exact ⟨(x, y), rfl⟩
theorem monoid_row (v1 : Value) (a : Int × Int) (v2 : Value) (b : Int × Int) (v3 : Value) (c : Int × Int) (w : World) (h1 : v1 = .agg #[.int .i64 a.1, .int .i64 a.2]) (h2 : v2 = .agg #[.int .i64 b.1, .int .i64 b.2]) (h3 : v3 = .agg #[.int .i64 c.1, .int .i64 c.2]) :
    Calls Try.prog 6 #[v1, v2, v3] w fun e w' => e = .returned (.bool true) ∧ Below w.heap.size w w' := by
  subst h1; subst h2; subst h3
  exact monoid_walk a b c w
end Go.Proofs.Ytbfgnpbkgegegaa
