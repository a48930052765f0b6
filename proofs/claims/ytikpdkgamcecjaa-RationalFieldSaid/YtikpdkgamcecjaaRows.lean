/-
  No cell of these rows narrows 'for every input' (looked for: loops, veiled, ifaces, maps, wideKeys, modest, calm, conditions, laid).
  DERIVED. THE GIVEN ROWS OF THIS SEAT. 14 by the template 'for every input the law returns true; each argument reads behind the call as it read before'; 0 by the template 'total and deterministic' (their statements: YtikpdkgamcecjaaTotals.lean).
  GIVEN WITH THE SEED: the statements are not yours to turn. If you find one false, say at which input.
  Laid BY PROGRAM, IN A SANDBOX (cutbox-rows.mjs): the forced cells as the released guide's own fill.sh prints them over the translation 59a96af2cd7fd2f8… (all of the seat's roots in one cut). By AI agents, Wed Nov 11 2026. No macro, syntax, notation, axiom, sorry.
-/
import Derived.Test.YtikpdkgamcecjaaChecked
import GoSem.Claim
import GoSem.ClaimJoined
import GoSem.ClaimMapViews
import Derived.JoinedTies
import Derived.KernelRfl
namespace Go.Proofs.Ytikpdkgamcecjaa
/- THE CELL 'sum', in the pinned program and in every row, IS THE sha256 OF THE DUMP (.gsa) THAT YtikpdkgamcecjaaProg.lean LOADS. Nothing in Lean hashes anything: it is a label: what it is worth is what the hold of that sum in a sandbox is worth. -/
noncomputable def Try.pinned : Pinned := { name := "ytikpdkgamcecjaa", sum := "59a96af2cd7fd2f857733a14064e51d38e42cbe217ad35994878a81b44f4ebac", checked := Try.checked }
namespace Rows
def none {H : Type} : Left H := { results := [], args := [] }

/-- 'amortcostlaw01.RationalMultiplies': WHATEVER THE INPUT: true; the input reads as it did. -/
def rationalMultipliesSpec : ChangeSpec := { name := "rationalMultiplies", fn := fun _ => fun
  | [d1, d2] => { results := [.lit (.bool true)], args := [d1, d2] }
  | _ => none }
def rationalMultipliesRow : OpenClaim := { program := "ytikpdkgamcecjaa", sum := "59a96af2cd7fd2f857733a14064e51d38e42cbe217ad35994878a81b44f4ebac", func := "amortcost/amortcostlaw01.RationalMultiplies", spec := "rationalMultiplies", apart := false }
def RationalMultipliesSaid : Prop := rationalMultipliesRow.holds Try.pinned (OpenSpec.ofChange rationalMultipliesSpec)

/-- ITS FALSE NEIGHBOUR: 'it returns false'. Refute it at one input. -/
def rationalMultipliesWrong : ChangeSpec := { name := "rationalMultiplies", fn := fun _ => fun
  | [d1, d2] => { results := [.lit (.bool false)], args := [d1, d2] }
  | _ => none }
def RationalMultipliesWrongFalsely : Prop := rationalMultipliesRow.holds Try.pinned (OpenSpec.ofChange rationalMultipliesWrong)

/-- 'amortcostlaw01.RationalConverts': WHATEVER THE INPUT: true; the input reads as it did. -/
def rationalConvertsSpec : ChangeSpec := { name := "rationalConverts", fn := fun _ => fun
  | [d1, d2, d3, d4] => { results := [.lit (.bool true)], args := [d1, d2, d3, d4] }
  | _ => none }
def rationalConvertsRow : OpenClaim := { program := "ytikpdkgamcecjaa", sum := "59a96af2cd7fd2f857733a14064e51d38e42cbe217ad35994878a81b44f4ebac", func := "amortcost/amortcostlaw01.RationalConverts", spec := "rationalConverts", apart := false }
def RationalConvertsSaid : Prop := rationalConvertsRow.holds Try.pinned (OpenSpec.ofChange rationalConvertsSpec)

/-- ITS FALSE NEIGHBOUR: 'it returns false'. Refute it at one input. -/
def rationalConvertsWrong : ChangeSpec := { name := "rationalConverts", fn := fun _ => fun
  | [d1, d2, d3, d4] => { results := [.lit (.bool false)], args := [d1, d2, d3, d4] }
  | _ => none }
def RationalConvertsWrongFalsely : Prop := rationalConvertsRow.holds Try.pinned (OpenSpec.ofChange rationalConvertsWrong)

/-- 'amortcostlaw01.RationalFormats': WHATEVER THE INPUT: true; the input reads as it did. -/
def rationalFormatsSpec : ChangeSpec := { name := "rationalFormats", fn := fun _ => fun
  | [d] => { results := [.lit (.bool true)], args := [d] }
  | _ => none }
def rationalFormatsRow : OpenClaim := { program := "ytikpdkgamcecjaa", sum := "59a96af2cd7fd2f857733a14064e51d38e42cbe217ad35994878a81b44f4ebac", func := "amortcost/amortcostlaw01.RationalFormats", spec := "rationalFormats", apart := false }
def RationalFormatsSaid : Prop := rationalFormatsRow.holds Try.pinned (OpenSpec.ofChange rationalFormatsSpec)

/-- ITS FALSE NEIGHBOUR: 'it returns false'. Refute it at one input. -/
def rationalFormatsWrong : ChangeSpec := { name := "rationalFormats", fn := fun _ => fun
  | [d] => { results := [.lit (.bool false)], args := [d] }
  | _ => none }
def RationalFormatsWrongFalsely : Prop := rationalFormatsRow.holds Try.pinned (OpenSpec.ofChange rationalFormatsWrong)

/-- 'amortcostlaw01.RationalRounds': WHATEVER THE INPUT: true; the input reads as it did. -/
def rationalRoundsSpec : ChangeSpec := { name := "rationalRounds", fn := fun _ => fun
  | [d] => { results := [.lit (.bool true)], args := [d] }
  | _ => none }
def rationalRoundsRow : OpenClaim := { program := "ytikpdkgamcecjaa", sum := "59a96af2cd7fd2f857733a14064e51d38e42cbe217ad35994878a81b44f4ebac", func := "amortcost/amortcostlaw01.RationalRounds", spec := "rationalRounds", apart := false }
def RationalRoundsSaid : Prop := rationalRoundsRow.holds Try.pinned (OpenSpec.ofChange rationalRoundsSpec)

/-- ITS FALSE NEIGHBOUR: 'it returns false'. Refute it at one input. -/
def rationalRoundsWrong : ChangeSpec := { name := "rationalRounds", fn := fun _ => fun
  | [d] => { results := [.lit (.bool false)], args := [d] }
  | _ => none }
def RationalRoundsWrongFalsely : Prop := rationalRoundsRow.holds Try.pinned (OpenSpec.ofChange rationalRoundsWrong)

/-- 'amortcostlaw01.RationalSums': WHATEVER THE INPUT: true; the input reads as it did. -/
def rationalSumsSpec : ChangeSpec := { name := "rationalSums", fn := fun _ => fun
  | [d] => { results := [.lit (.bool true)], args := [d] }
  | _ => none }
def rationalSumsRow : OpenClaim := { program := "ytikpdkgamcecjaa", sum := "59a96af2cd7fd2f857733a14064e51d38e42cbe217ad35994878a81b44f4ebac", func := "amortcost/amortcostlaw01.RationalSums", spec := "rationalSums", apart := false }
def RationalSumsSaid : Prop := rationalSumsRow.holds Try.pinned (OpenSpec.ofChange rationalSumsSpec)

/-- ITS FALSE NEIGHBOUR: 'it returns false'. Refute it at one input. -/
def rationalSumsWrong : ChangeSpec := { name := "rationalSums", fn := fun _ => fun
  | [d] => { results := [.lit (.bool false)], args := [d] }
  | _ => none }
def RationalSumsWrongFalsely : Prop := rationalSumsRow.holds Try.pinned (OpenSpec.ofChange rationalSumsWrong)

/-- 'amortcostlaw01.RationalAdds': WHATEVER THE INPUT: true; the input reads as it did. -/
def rationalAddsSpec : ChangeSpec := { name := "rationalAdds", fn := fun _ => fun
  | [d1, d2] => { results := [.lit (.bool true)], args := [d1, d2] }
  | _ => none }
def rationalAddsRow : OpenClaim := { program := "ytikpdkgamcecjaa", sum := "59a96af2cd7fd2f857733a14064e51d38e42cbe217ad35994878a81b44f4ebac", func := "amortcost/amortcostlaw01.RationalAdds", spec := "rationalAdds", apart := false }
def RationalAddsSaid : Prop := rationalAddsRow.holds Try.pinned (OpenSpec.ofChange rationalAddsSpec)

/-- ITS FALSE NEIGHBOUR: 'it returns false'. Refute it at one input. -/
def rationalAddsWrong : ChangeSpec := { name := "rationalAdds", fn := fun _ => fun
  | [d1, d2] => { results := [.lit (.bool false)], args := [d1, d2] }
  | _ => none }
def RationalAddsWrongFalsely : Prop := rationalAddsRow.holds Try.pinned (OpenSpec.ofChange rationalAddsWrong)

/-- 'amortcostlaw01.RationalCarries': WHATEVER THE INPUT: true; the input reads as it did. -/
def rationalCarriesSpec : ChangeSpec := { name := "rationalCarries", fn := fun _ => fun
  | [d1, d2] => { results := [.lit (.bool true)], args := [d1, d2] }
  | _ => none }
def rationalCarriesRow : OpenClaim := { program := "ytikpdkgamcecjaa", sum := "59a96af2cd7fd2f857733a14064e51d38e42cbe217ad35994878a81b44f4ebac", func := "amortcost/amortcostlaw01.RationalCarries", spec := "rationalCarries", apart := false }
def RationalCarriesSaid : Prop := rationalCarriesRow.holds Try.pinned (OpenSpec.ofChange rationalCarriesSpec)

/-- ITS FALSE NEIGHBOUR: 'it returns false'. Refute it at one input. -/
def rationalCarriesWrong : ChangeSpec := { name := "rationalCarries", fn := fun _ => fun
  | [d1, d2] => { results := [.lit (.bool false)], args := [d1, d2] }
  | _ => none }
def RationalCarriesWrongFalsely : Prop := rationalCarriesRow.holds Try.pinned (OpenSpec.ofChange rationalCarriesWrong)

/-- 'amortcostlaw01.RationalCompares': WHATEVER THE INPUT: true; the input reads as it did. -/
def rationalComparesSpec : ChangeSpec := { name := "rationalCompares", fn := fun _ => fun
  | [d1, d2] => { results := [.lit (.bool true)], args := [d1, d2] }
  | _ => none }
def rationalComparesRow : OpenClaim := { program := "ytikpdkgamcecjaa", sum := "59a96af2cd7fd2f857733a14064e51d38e42cbe217ad35994878a81b44f4ebac", func := "amortcost/amortcostlaw01.RationalCompares", spec := "rationalCompares", apart := false }
def RationalComparesSaid : Prop := rationalComparesRow.holds Try.pinned (OpenSpec.ofChange rationalComparesSpec)

/-- ITS FALSE NEIGHBOUR: 'it returns false'. Refute it at one input. -/
def rationalComparesWrong : ChangeSpec := { name := "rationalCompares", fn := fun _ => fun
  | [d1, d2] => { results := [.lit (.bool false)], args := [d1, d2] }
  | _ => none }
def RationalComparesWrongFalsely : Prop := rationalComparesRow.holds Try.pinned (OpenSpec.ofChange rationalComparesWrong)

/-- 'amortcostlaw01.RationalField': WHATEVER THE INPUT: true; the input reads as it did. -/
def rationalFieldSpec : ChangeSpec := { name := "rationalField", fn := fun _ => fun
  | [d1, d2, d3] => { results := [.lit (.bool true)], args := [d1, d2, d3] }
  | _ => none }
def rationalFieldRow : OpenClaim := { program := "ytikpdkgamcecjaa", sum := "59a96af2cd7fd2f857733a14064e51d38e42cbe217ad35994878a81b44f4ebac", func := "amortcost/amortcostlaw01.RationalField", spec := "rationalField", apart := false }
def RationalFieldSaid : Prop := rationalFieldRow.holds Try.pinned (OpenSpec.ofChange rationalFieldSpec)

/-- ITS FALSE NEIGHBOUR: 'it returns false'. Refute it at one input. -/
def rationalFieldWrong : ChangeSpec := { name := "rationalField", fn := fun _ => fun
  | [d1, d2, d3] => { results := [.lit (.bool false)], args := [d1, d2, d3] }
  | _ => none }
def RationalFieldWrongFalsely : Prop := rationalFieldRow.holds Try.pinned (OpenSpec.ofChange rationalFieldWrong)

/-- 'amortcostlaw01.RationalOrder': WHATEVER THE INPUT: true; the input reads as it did. -/
def rationalOrderSpec : ChangeSpec := { name := "rationalOrder", fn := fun _ => fun
  | [d1, d2, d3] => { results := [.lit (.bool true)], args := [d1, d2, d3] }
  | _ => none }
def rationalOrderRow : OpenClaim := { program := "ytikpdkgamcecjaa", sum := "59a96af2cd7fd2f857733a14064e51d38e42cbe217ad35994878a81b44f4ebac", func := "amortcost/amortcostlaw01.RationalOrder", spec := "rationalOrder", apart := false }
def RationalOrderSaid : Prop := rationalOrderRow.holds Try.pinned (OpenSpec.ofChange rationalOrderSpec)

/-- ITS FALSE NEIGHBOUR: 'it returns false'. Refute it at one input. -/
def rationalOrderWrong : ChangeSpec := { name := "rationalOrder", fn := fun _ => fun
  | [d1, d2, d3] => { results := [.lit (.bool false)], args := [d1, d2, d3] }
  | _ => none }
def RationalOrderWrongFalsely : Prop := rationalOrderRow.holds Try.pinned (OpenSpec.ofChange rationalOrderWrong)

/-- 'amortcostlaw01.RationalFloors': WHATEVER THE INPUT: true; the input reads as it did. -/
def rationalFloorsSpec : ChangeSpec := { name := "rationalFloors", fn := fun _ => fun
  | [d] => { results := [.lit (.bool true)], args := [d] }
  | _ => none }
def rationalFloorsRow : OpenClaim := { program := "ytikpdkgamcecjaa", sum := "59a96af2cd7fd2f857733a14064e51d38e42cbe217ad35994878a81b44f4ebac", func := "amortcost/amortcostlaw01.RationalFloors", spec := "rationalFloors", apart := false }
def RationalFloorsSaid : Prop := rationalFloorsRow.holds Try.pinned (OpenSpec.ofChange rationalFloorsSpec)

/-- ITS FALSE NEIGHBOUR: 'it returns false'. Refute it at one input. -/
def rationalFloorsWrong : ChangeSpec := { name := "rationalFloors", fn := fun _ => fun
  | [d] => { results := [.lit (.bool false)], args := [d] }
  | _ => none }
def RationalFloorsWrongFalsely : Prop := rationalFloorsRow.holds Try.pinned (OpenSpec.ofChange rationalFloorsWrong)

/-- 'amortcostlaw01.RationalForms': WHATEVER THE INPUT: true; the input reads as it did. -/
def rationalFormsSpec : ChangeSpec := { name := "rationalForms", fn := fun _ => fun
  | [d1, d2, d3, d4] => { results := [.lit (.bool true)], args := [d1, d2, d3, d4] }
  | _ => none }
def rationalFormsRow : OpenClaim := { program := "ytikpdkgamcecjaa", sum := "59a96af2cd7fd2f857733a14064e51d38e42cbe217ad35994878a81b44f4ebac", func := "amortcost/amortcostlaw01.RationalForms", spec := "rationalForms", apart := false }
def RationalFormsSaid : Prop := rationalFormsRow.holds Try.pinned (OpenSpec.ofChange rationalFormsSpec)

/-- ITS FALSE NEIGHBOUR: 'it returns false'. Refute it at one input. -/
def rationalFormsWrong : ChangeSpec := { name := "rationalForms", fn := fun _ => fun
  | [d1, d2, d3, d4] => { results := [.lit (.bool false)], args := [d1, d2, d3, d4] }
  | _ => none }
def RationalFormsWrongFalsely : Prop := rationalFormsRow.holds Try.pinned (OpenSpec.ofChange rationalFormsWrong)

/-- 'amortcostlaw01.RationalParses': WHATEVER THE INPUT: true; the input reads as it did. -/
def rationalParsesSpec : ChangeSpec := { name := "rationalParses", fn := fun _ => fun
  | [d] => { results := [.lit (.bool true)], args := [d] }
  | _ => none }
def rationalParsesRow : OpenClaim := { program := "ytikpdkgamcecjaa", sum := "59a96af2cd7fd2f857733a14064e51d38e42cbe217ad35994878a81b44f4ebac", func := "amortcost/amortcostlaw01.RationalParses", spec := "rationalParses", inPlace := ["internal/bytealg.IndexByteString", "internal/bytealg.IndexString"], named := ["internal/bytealg.MaxLen"], apart := false }
def RationalParsesSaid : Prop := rationalParsesRow.holds Try.pinned (OpenSpec.ofChange rationalParsesSpec)

/-- ITS FALSE NEIGHBOUR: 'it returns false'. Refute it at one input. -/
def rationalParsesWrong : ChangeSpec := { name := "rationalParses", fn := fun _ => fun
  | [d] => { results := [.lit (.bool false)], args := [d] }
  | _ => none }
def RationalParsesWrongFalsely : Prop := rationalParsesRow.holds Try.pinned (OpenSpec.ofChange rationalParsesWrong)

/-- 'amortcostlaw01.RationalBack': WHATEVER THE INPUT: true; the input reads as it did. -/
def rationalBackSpec : ChangeSpec := { name := "rationalBack", fn := fun _ => fun
  | [d] => { results := [.lit (.bool true)], args := [d] }
  | _ => none }
def rationalBackRow : OpenClaim := { program := "ytikpdkgamcecjaa", sum := "59a96af2cd7fd2f857733a14064e51d38e42cbe217ad35994878a81b44f4ebac", func := "amortcost/amortcostlaw01.RationalBack", spec := "rationalBack", inPlace := ["internal/bytealg.IndexByteString", "internal/bytealg.IndexString"], named := ["internal/bytealg.MaxLen"], apart := false }
def RationalBackSaid : Prop := rationalBackRow.holds Try.pinned (OpenSpec.ofChange rationalBackSpec)

/-- ITS FALSE NEIGHBOUR: 'it returns false'. Refute it at one input. -/
def rationalBackWrong : ChangeSpec := { name := "rationalBack", fn := fun _ => fun
  | [d] => { results := [.lit (.bool false)], args := [d] }
  | _ => none }
def RationalBackWrongFalsely : Prop := rationalBackRow.holds Try.pinned (OpenSpec.ofChange rationalBackWrong)

/- THE SECOND FORM. 'bulk': how many values and letters a reading holds, each counted each time it is reached (what is shared counts as often as it is met; a slice's spare places count too). A statement '..UptoSaid' is the law's where the arguments, and the package variables that the reading takes, are together of bulk at most 1048576: NARROWER than '..Said'. Prove '..Said' where nothing that the law and all that it calls make is longer than what came in: it says more and counts as full. Else prove '..UptoSaid'. A law counts once. -/
mutual
def uptoBulk {H : Type} : DataW H → Nat
  | .lit (.string bytes) => bytes.length + 1
  | .lit _ => 1
  | .nil => 1
  | .ptr d => uptoBulk d + 1
  | .slice elems spare => uptoBulkAll elems + uptoBulkAll spare + 1
  | .agg parts => uptoBulkAll parts + 1
  | .iface _ d => uptoBulk d + 1
  | .map entries => uptoBulkEntries entries + 1
  | .held _ => 1
def uptoBulkAll {H : Type} : List (DataW H) → Nat
  | [] => 0
  | d :: r => uptoBulk d + uptoBulkAll r
def uptoBulkEntries {H : Type} : List (Lit × DataW H) → Nat
  | [] => 0
  | x :: r => uptoBulkEntry x + uptoBulkEntries r
def uptoBulkEntry {H : Type} : Lit × DataW H → Nat
  | (.string bytes, d) => bytes.length + uptoBulk d + 1
  | (_, d) => uptoBulk d + 1
 end
def uptoSmall : (H : Type) → List (DataW H) → Bool := fun _ ds => decide (uptoBulkAll ds ≤ 1048576)
def OpenSpec.upto (s : _root_.Go.ChangeSpec) : _root_.Go.OpenSpec := { _root_.Go.OpenSpec.ofChange s with cond := some uptoSmall }

/-- 'amortcostlaw01.RationalMultiplies', WHERE WHAT IT READS IS OF BULK AT MOST 1048576: true; the input reads as it did. -/
def rationalMultipliesUptoRow : OpenClaim := { program := "ytikpdkgamcecjaa", sum := "59a96af2cd7fd2f857733a14064e51d38e42cbe217ad35994878a81b44f4ebac", func := "amortcost/amortcostlaw01.RationalMultiplies", spec := "rationalMultiplies", apart := false, narrowed := true }
def RationalMultipliesUptoSaid : Prop := rationalMultipliesUptoRow.holds Try.pinned (OpenSpec.upto rationalMultipliesSpec)

/-- 'amortcostlaw01.RationalConverts', WHERE WHAT IT READS IS OF BULK AT MOST 1048576: true; the input reads as it did. -/
def rationalConvertsUptoRow : OpenClaim := { program := "ytikpdkgamcecjaa", sum := "59a96af2cd7fd2f857733a14064e51d38e42cbe217ad35994878a81b44f4ebac", func := "amortcost/amortcostlaw01.RationalConverts", spec := "rationalConverts", apart := false, narrowed := true }
def RationalConvertsUptoSaid : Prop := rationalConvertsUptoRow.holds Try.pinned (OpenSpec.upto rationalConvertsSpec)

/-- 'amortcostlaw01.RationalFormats', WHERE WHAT IT READS IS OF BULK AT MOST 1048576: true; the input reads as it did. -/
def rationalFormatsUptoRow : OpenClaim := { program := "ytikpdkgamcecjaa", sum := "59a96af2cd7fd2f857733a14064e51d38e42cbe217ad35994878a81b44f4ebac", func := "amortcost/amortcostlaw01.RationalFormats", spec := "rationalFormats", apart := false, narrowed := true }
def RationalFormatsUptoSaid : Prop := rationalFormatsUptoRow.holds Try.pinned (OpenSpec.upto rationalFormatsSpec)

/-- 'amortcostlaw01.RationalRounds', WHERE WHAT IT READS IS OF BULK AT MOST 1048576: true; the input reads as it did. -/
def rationalRoundsUptoRow : OpenClaim := { program := "ytikpdkgamcecjaa", sum := "59a96af2cd7fd2f857733a14064e51d38e42cbe217ad35994878a81b44f4ebac", func := "amortcost/amortcostlaw01.RationalRounds", spec := "rationalRounds", apart := false, narrowed := true }
def RationalRoundsUptoSaid : Prop := rationalRoundsUptoRow.holds Try.pinned (OpenSpec.upto rationalRoundsSpec)

/-- 'amortcostlaw01.RationalSums', WHERE WHAT IT READS IS OF BULK AT MOST 1048576: true; the input reads as it did. -/
def rationalSumsUptoRow : OpenClaim := { program := "ytikpdkgamcecjaa", sum := "59a96af2cd7fd2f857733a14064e51d38e42cbe217ad35994878a81b44f4ebac", func := "amortcost/amortcostlaw01.RationalSums", spec := "rationalSums", apart := false, narrowed := true }
def RationalSumsUptoSaid : Prop := rationalSumsUptoRow.holds Try.pinned (OpenSpec.upto rationalSumsSpec)

/-- 'amortcostlaw01.RationalAdds', WHERE WHAT IT READS IS OF BULK AT MOST 1048576: true; the input reads as it did. -/
def rationalAddsUptoRow : OpenClaim := { program := "ytikpdkgamcecjaa", sum := "59a96af2cd7fd2f857733a14064e51d38e42cbe217ad35994878a81b44f4ebac", func := "amortcost/amortcostlaw01.RationalAdds", spec := "rationalAdds", apart := false, narrowed := true }
def RationalAddsUptoSaid : Prop := rationalAddsUptoRow.holds Try.pinned (OpenSpec.upto rationalAddsSpec)

/-- 'amortcostlaw01.RationalCarries', WHERE WHAT IT READS IS OF BULK AT MOST 1048576: true; the input reads as it did. -/
def rationalCarriesUptoRow : OpenClaim := { program := "ytikpdkgamcecjaa", sum := "59a96af2cd7fd2f857733a14064e51d38e42cbe217ad35994878a81b44f4ebac", func := "amortcost/amortcostlaw01.RationalCarries", spec := "rationalCarries", apart := false, narrowed := true }
def RationalCarriesUptoSaid : Prop := rationalCarriesUptoRow.holds Try.pinned (OpenSpec.upto rationalCarriesSpec)

/-- 'amortcostlaw01.RationalCompares', WHERE WHAT IT READS IS OF BULK AT MOST 1048576: true; the input reads as it did. -/
def rationalComparesUptoRow : OpenClaim := { program := "ytikpdkgamcecjaa", sum := "59a96af2cd7fd2f857733a14064e51d38e42cbe217ad35994878a81b44f4ebac", func := "amortcost/amortcostlaw01.RationalCompares", spec := "rationalCompares", apart := false, narrowed := true }
def RationalComparesUptoSaid : Prop := rationalComparesUptoRow.holds Try.pinned (OpenSpec.upto rationalComparesSpec)

/-- 'amortcostlaw01.RationalField', WHERE WHAT IT READS IS OF BULK AT MOST 1048576: true; the input reads as it did. -/
def rationalFieldUptoRow : OpenClaim := { program := "ytikpdkgamcecjaa", sum := "59a96af2cd7fd2f857733a14064e51d38e42cbe217ad35994878a81b44f4ebac", func := "amortcost/amortcostlaw01.RationalField", spec := "rationalField", apart := false, narrowed := true }
def RationalFieldUptoSaid : Prop := rationalFieldUptoRow.holds Try.pinned (OpenSpec.upto rationalFieldSpec)

/-- 'amortcostlaw01.RationalOrder', WHERE WHAT IT READS IS OF BULK AT MOST 1048576: true; the input reads as it did. -/
def rationalOrderUptoRow : OpenClaim := { program := "ytikpdkgamcecjaa", sum := "59a96af2cd7fd2f857733a14064e51d38e42cbe217ad35994878a81b44f4ebac", func := "amortcost/amortcostlaw01.RationalOrder", spec := "rationalOrder", apart := false, narrowed := true }
def RationalOrderUptoSaid : Prop := rationalOrderUptoRow.holds Try.pinned (OpenSpec.upto rationalOrderSpec)

/-- 'amortcostlaw01.RationalFloors', WHERE WHAT IT READS IS OF BULK AT MOST 1048576: true; the input reads as it did. -/
def rationalFloorsUptoRow : OpenClaim := { program := "ytikpdkgamcecjaa", sum := "59a96af2cd7fd2f857733a14064e51d38e42cbe217ad35994878a81b44f4ebac", func := "amortcost/amortcostlaw01.RationalFloors", spec := "rationalFloors", apart := false, narrowed := true }
def RationalFloorsUptoSaid : Prop := rationalFloorsUptoRow.holds Try.pinned (OpenSpec.upto rationalFloorsSpec)

/-- 'amortcostlaw01.RationalForms', WHERE WHAT IT READS IS OF BULK AT MOST 1048576: true; the input reads as it did. -/
def rationalFormsUptoRow : OpenClaim := { program := "ytikpdkgamcecjaa", sum := "59a96af2cd7fd2f857733a14064e51d38e42cbe217ad35994878a81b44f4ebac", func := "amortcost/amortcostlaw01.RationalForms", spec := "rationalForms", apart := false, narrowed := true }
def RationalFormsUptoSaid : Prop := rationalFormsUptoRow.holds Try.pinned (OpenSpec.upto rationalFormsSpec)

/-- 'amortcostlaw01.RationalParses', WHERE WHAT IT READS IS OF BULK AT MOST 1048576: true; the input reads as it did. -/
def rationalParsesUptoRow : OpenClaim := { program := "ytikpdkgamcecjaa", sum := "59a96af2cd7fd2f857733a14064e51d38e42cbe217ad35994878a81b44f4ebac", func := "amortcost/amortcostlaw01.RationalParses", spec := "rationalParses", inPlace := ["internal/bytealg.IndexByteString", "internal/bytealg.IndexString"], named := ["internal/bytealg.MaxLen"], apart := false, narrowed := true }
def RationalParsesUptoSaid : Prop := rationalParsesUptoRow.holds Try.pinned (OpenSpec.upto rationalParsesSpec)

/-- 'amortcostlaw01.RationalBack', WHERE WHAT IT READS IS OF BULK AT MOST 1048576: true; the input reads as it did. -/
def rationalBackUptoRow : OpenClaim := { program := "ytikpdkgamcecjaa", sum := "59a96af2cd7fd2f857733a14064e51d38e42cbe217ad35994878a81b44f4ebac", func := "amortcost/amortcostlaw01.RationalBack", spec := "rationalBack", inPlace := ["internal/bytealg.IndexByteString", "internal/bytealg.IndexString"], named := ["internal/bytealg.MaxLen"], apart := false, narrowed := true }
def RationalBackUptoSaid : Prop := rationalBackUptoRow.holds Try.pinned (OpenSpec.upto rationalBackSpec)

end Rows
end Go.Proofs.Ytikpdkgamcecjaa
