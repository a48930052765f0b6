/- The last region of RationalField, operation by operation. -/
import Derived.Test.YtikpdkgamcecjaaC2
import Derived.Test.YtikpdkgamcecjaaT4
namespace Go.Proofs.Ytikpdkgamcecjaa
open Go.RowKit
set_option linter.unusedSimpArgs false
set_option linter.unusedVariables false

def fo0 : Oper := { dst := some 46, op := Op.load 24 (Operand.tmp 3), type := 24, pos := "law.go:99", after := #[], guard := none }
def fo1 : Oper := { dst := some 47, op := Op.load 24 (Operand.tmp 4), type := 24, pos := "law.go:99", after := #[], guard := none }
def fo2 : Oper := { dst := some 48, op := Op.call { callee := Callee.value (Operand.func 43), args := #[Operand.tmp 46, Operand.tmp 47], argTypes := #[24, 24] }, type := 24, pos := "law.go:99", after := #[{ on := 0, ground := Ground.data }, { on := 1, ground := Ground.data }], guard := none }
def fo3 : Oper := { dst := some 49, op := Op.load 24 (Operand.tmp 5), type := 24, pos := "law.go:99", after := #[], guard := none }
def fo4 : Oper := { dst := some 50, op := Op.call { callee := Callee.value (Operand.func 43), args := #[Operand.tmp 48, Operand.tmp 49], argTypes := #[24, 24] }, type := 24, pos := "law.go:99", after := #[{ on := 2, ground := Ground.data }, { on := 3, ground := Ground.data }, { on := 2, ground := Ground.chain }], guard := none }
def fo5 : Oper := { dst := some 51, op := Op.load 24 (Operand.tmp 3), type := 24, pos := "law.go:99", after := #[], guard := none }
def fo6 : Oper := { dst := some 52, op := Op.load 24 (Operand.tmp 4), type := 24, pos := "law.go:99", after := #[], guard := none }
def fo7 : Oper := { dst := some 53, op := Op.load 24 (Operand.tmp 5), type := 24, pos := "law.go:99", after := #[], guard := none }
def fo8 : Oper := { dst := some 54, op := Op.call { callee := Callee.value (Operand.func 43), args := #[Operand.tmp 52, Operand.tmp 53], argTypes := #[24, 24] }, type := 24, pos := "law.go:99", after := #[{ on := 6, ground := Ground.data }, { on := 7, ground := Ground.data }, { on := 4, ground := Ground.chain }], guard := none }
def fo9 : Oper := { dst := some 55, op := Op.call { callee := Callee.value (Operand.func 43), args := #[Operand.tmp 51, Operand.tmp 54], argTypes := #[24, 24] }, type := 24, pos := "law.go:99", after := #[{ on := 5, ground := Ground.data }, { on := 8, ground := Ground.data }, { on := 8, ground := Ground.chain }], guard := none }
def fo10 : Oper := { dst := some 56, op := Op.call { callee := Callee.value (Operand.func 20), args := #[Operand.tmp 50, Operand.tmp 55], argTypes := #[24, 24] }, type := 4, pos := "law.go:99", after := #[{ on := 4, ground := Ground.data }, { on := 9, ground := Ground.data }, { on := 9, ground := Ground.chain }], guard := none }
def fo11 : Oper := { dst := some 57, op := Op.move (Operand.tmp 56), type := 4, pos := "law.go:99", after := #[{ on := 10, ground := Ground.data }, { on := 10, ground := Ground.chain }], guard := none }
def fo12 : Oper := { dst := some 58, op := Op.load 24 (Operand.tmp 3), type := 24, pos := "law.go:99", after := #[{ on := 11, ground := Ground.guard }], guard := some (11, true) }
def fo13 : Oper := { dst := some 59, op := Op.load 24 (Operand.tmp 4), type := 24, pos := "law.go:99", after := #[{ on := 11, ground := Ground.guard }], guard := some (11, true) }
def fo14 : Oper := { dst := some 60, op := Op.call { callee := Callee.value (Operand.func 21), args := #[Operand.tmp 58, Operand.tmp 59], argTypes := #[24, 24] }, type := 24, pos := "law.go:100", after := #[{ on := 12, ground := Ground.data }, { on := 13, ground := Ground.data }, { on := 11, ground := Ground.chain }, { on := 11, ground := Ground.guard }], guard := some (11, true) }
def fo15 : Oper := { dst := some 61, op := Op.load 24 (Operand.tmp 5), type := 24, pos := "law.go:99", after := #[{ on := 11, ground := Ground.guard }], guard := some (11, true) }
def fo16 : Oper := { dst := some 62, op := Op.call { callee := Callee.value (Operand.func 21), args := #[Operand.tmp 60, Operand.tmp 61], argTypes := #[24, 24] }, type := 24, pos := "law.go:100", after := #[{ on := 14, ground := Ground.data }, { on := 15, ground := Ground.data }, { on := 14, ground := Ground.chain }, { on := 11, ground := Ground.guard }], guard := some (11, true) }
def fo17 : Oper := { dst := some 63, op := Op.load 24 (Operand.tmp 3), type := 24, pos := "law.go:99", after := #[{ on := 11, ground := Ground.guard }], guard := some (11, true) }
def fo18 : Oper := { dst := some 64, op := Op.load 24 (Operand.tmp 4), type := 24, pos := "law.go:99", after := #[{ on := 11, ground := Ground.guard }], guard := some (11, true) }
def fo19 : Oper := { dst := some 65, op := Op.load 24 (Operand.tmp 5), type := 24, pos := "law.go:99", after := #[{ on := 11, ground := Ground.guard }], guard := some (11, true) }
def fo20 : Oper := { dst := some 66, op := Op.call { callee := Callee.value (Operand.func 21), args := #[Operand.tmp 64, Operand.tmp 65], argTypes := #[24, 24] }, type := 24, pos := "law.go:100", after := #[{ on := 18, ground := Ground.data }, { on := 19, ground := Ground.data }, { on := 16, ground := Ground.chain }, { on := 11, ground := Ground.guard }], guard := some (11, true) }
def fo21 : Oper := { dst := some 67, op := Op.call { callee := Callee.value (Operand.func 21), args := #[Operand.tmp 63, Operand.tmp 66], argTypes := #[24, 24] }, type := 24, pos := "law.go:100", after := #[{ on := 17, ground := Ground.data }, { on := 20, ground := Ground.data }, { on := 20, ground := Ground.chain }, { on := 11, ground := Ground.guard }], guard := some (11, true) }
def fo22 : Oper := { dst := some 68, op := Op.call { callee := Callee.value (Operand.func 20), args := #[Operand.tmp 62, Operand.tmp 67], argTypes := #[24, 24] }, type := 4, pos := "law.go:100", after := #[{ on := 16, ground := Ground.data }, { on := 21, ground := Ground.data }, { on := 21, ground := Ground.chain }, { on := 11, ground := Ground.guard }], guard := some (11, true) }
def fo23 : Oper := { dst := some 69, op := Op.pick (Operand.tmp 57) (Operand.tmp 68) (Operand.const (Value.bool false)), type := 4, pos := "law.go:99", after := #[{ on := 11, ground := Ground.data }, { on := 22, ground := Ground.data }], guard := none }
def fo24 : Oper := { dst := some 70, op := Op.move (Operand.tmp 69), type := 4, pos := "law.go:99", after := #[{ on := 23, ground := Ground.data }, { on := 22, ground := Ground.chain }], guard := none }
def fo25 : Oper := { dst := some 71, op := Op.load 24 (Operand.tmp 3), type := 24, pos := "law.go:99", after := #[{ on := 24, ground := Ground.guard }], guard := some (24, true) }
def fo26 : Oper := { dst := some 72, op := Op.load 24 (Operand.tmp 4), type := 24, pos := "law.go:99", after := #[{ on := 24, ground := Ground.guard }], guard := some (24, true) }
def fo27 : Oper := { dst := some 73, op := Op.call { callee := Callee.value (Operand.func 43), args := #[Operand.tmp 71, Operand.tmp 72], argTypes := #[24, 24] }, type := 24, pos := "law.go:101", after := #[{ on := 25, ground := Ground.data }, { on := 26, ground := Ground.data }, { on := 24, ground := Ground.chain }, { on := 24, ground := Ground.guard }], guard := some (24, true) }
def fo28 : Oper := { dst := some 74, op := Op.load 24 (Operand.tmp 4), type := 24, pos := "law.go:99", after := #[{ on := 24, ground := Ground.guard }], guard := some (24, true) }
def fo29 : Oper := { dst := some 75, op := Op.load 24 (Operand.tmp 3), type := 24, pos := "law.go:99", after := #[{ on := 24, ground := Ground.guard }], guard := some (24, true) }
def fo30 : Oper := { dst := some 76, op := Op.call { callee := Callee.value (Operand.func 43), args := #[Operand.tmp 74, Operand.tmp 75], argTypes := #[24, 24] }, type := 24, pos := "law.go:101", after := #[{ on := 28, ground := Ground.data }, { on := 29, ground := Ground.data }, { on := 27, ground := Ground.chain }, { on := 24, ground := Ground.guard }], guard := some (24, true) }
def fo31 : Oper := { dst := some 77, op := Op.call { callee := Callee.value (Operand.func 20), args := #[Operand.tmp 73, Operand.tmp 76], argTypes := #[24, 24] }, type := 4, pos := "law.go:101", after := #[{ on := 27, ground := Ground.data }, { on := 30, ground := Ground.data }, { on := 30, ground := Ground.chain }, { on := 24, ground := Ground.guard }], guard := some (24, true) }
def fo32 : Oper := { dst := some 78, op := Op.pick (Operand.tmp 70) (Operand.tmp 77) (Operand.const (Value.bool false)), type := 4, pos := "law.go:99", after := #[{ on := 24, ground := Ground.data }, { on := 31, ground := Ground.data }], guard := none }
def fo33 : Oper := { dst := some 79, op := Op.move (Operand.tmp 78), type := 4, pos := "law.go:99", after := #[{ on := 32, ground := Ground.data }, { on := 31, ground := Ground.chain }], guard := none }
def fo34 : Oper := { dst := some 80, op := Op.load 24 (Operand.tmp 3), type := 24, pos := "law.go:99", after := #[{ on := 33, ground := Ground.guard }], guard := some (33, true) }
def fo35 : Oper := { dst := some 81, op := Op.load 24 (Operand.tmp 4), type := 24, pos := "law.go:99", after := #[{ on := 33, ground := Ground.guard }], guard := some (33, true) }
def fo36 : Oper := { dst := some 82, op := Op.call { callee := Callee.value (Operand.func 21), args := #[Operand.tmp 80, Operand.tmp 81], argTypes := #[24, 24] }, type := 24, pos := "law.go:101", after := #[{ on := 34, ground := Ground.data }, { on := 35, ground := Ground.data }, { on := 33, ground := Ground.chain }, { on := 33, ground := Ground.guard }], guard := some (33, true) }
def fo37 : Oper := { dst := some 83, op := Op.load 24 (Operand.tmp 4), type := 24, pos := "law.go:99", after := #[{ on := 33, ground := Ground.guard }], guard := some (33, true) }
def fo38 : Oper := { dst := some 84, op := Op.load 24 (Operand.tmp 3), type := 24, pos := "law.go:99", after := #[{ on := 33, ground := Ground.guard }], guard := some (33, true) }
def fo39 : Oper := { dst := some 85, op := Op.call { callee := Callee.value (Operand.func 21), args := #[Operand.tmp 83, Operand.tmp 84], argTypes := #[24, 24] }, type := 24, pos := "law.go:101", after := #[{ on := 37, ground := Ground.data }, { on := 38, ground := Ground.data }, { on := 36, ground := Ground.chain }, { on := 33, ground := Ground.guard }], guard := some (33, true) }
def fo40 : Oper := { dst := some 86, op := Op.call { callee := Callee.value (Operand.func 20), args := #[Operand.tmp 82, Operand.tmp 85], argTypes := #[24, 24] }, type := 4, pos := "law.go:101", after := #[{ on := 36, ground := Ground.data }, { on := 39, ground := Ground.data }, { on := 39, ground := Ground.chain }, { on := 33, ground := Ground.guard }], guard := some (33, true) }
def fo41 : Oper := { dst := some 87, op := Op.pick (Operand.tmp 79) (Operand.tmp 86) (Operand.const (Value.bool false)), type := 4, pos := "law.go:99", after := #[{ on := 33, ground := Ground.data }, { on := 40, ground := Ground.data }], guard := none }
def fo42 : Oper := { dst := some 88, op := Op.move (Operand.tmp 87), type := 4, pos := "law.go:99", after := #[{ on := 41, ground := Ground.data }, { on := 40, ground := Ground.chain }], guard := none }
def fo43 : Oper := { dst := some 89, op := Op.load 24 (Operand.tmp 3), type := 24, pos := "law.go:99", after := #[{ on := 42, ground := Ground.guard }], guard := some (42, true) }
def fo44 : Oper := { dst := some 90, op := Op.load 24 (Operand.tmp 4), type := 24, pos := "law.go:99", after := #[{ on := 42, ground := Ground.guard }], guard := some (42, true) }
def fo45 : Oper := { dst := some 91, op := Op.load 24 (Operand.tmp 5), type := 24, pos := "law.go:99", after := #[{ on := 42, ground := Ground.guard }], guard := some (42, true) }
def fo46 : Oper := { dst := some 92, op := Op.call { callee := Callee.value (Operand.func 43), args := #[Operand.tmp 90, Operand.tmp 91], argTypes := #[24, 24] }, type := 24, pos := "law.go:102", after := #[{ on := 44, ground := Ground.data }, { on := 45, ground := Ground.data }, { on := 42, ground := Ground.chain }, { on := 42, ground := Ground.guard }], guard := some (42, true) }
def fo47 : Oper := { dst := some 93, op := Op.call { callee := Callee.value (Operand.func 21), args := #[Operand.tmp 89, Operand.tmp 92], argTypes := #[24, 24] }, type := 24, pos := "law.go:102", after := #[{ on := 43, ground := Ground.data }, { on := 46, ground := Ground.data }, { on := 46, ground := Ground.chain }, { on := 42, ground := Ground.guard }], guard := some (42, true) }
def fo48 : Oper := { dst := some 94, op := Op.load 24 (Operand.tmp 3), type := 24, pos := "law.go:99", after := #[{ on := 42, ground := Ground.guard }], guard := some (42, true) }
def fo49 : Oper := { dst := some 95, op := Op.load 24 (Operand.tmp 4), type := 24, pos := "law.go:99", after := #[{ on := 42, ground := Ground.guard }], guard := some (42, true) }
def fo50 : Oper := { dst := some 96, op := Op.call { callee := Callee.value (Operand.func 21), args := #[Operand.tmp 94, Operand.tmp 95], argTypes := #[24, 24] }, type := 24, pos := "law.go:102", after := #[{ on := 48, ground := Ground.data }, { on := 49, ground := Ground.data }, { on := 47, ground := Ground.chain }, { on := 42, ground := Ground.guard }], guard := some (42, true) }
def fo51 : Oper := { dst := some 97, op := Op.load 24 (Operand.tmp 3), type := 24, pos := "law.go:99", after := #[{ on := 42, ground := Ground.guard }], guard := some (42, true) }
def fo52 : Oper := { dst := some 98, op := Op.load 24 (Operand.tmp 5), type := 24, pos := "law.go:99", after := #[{ on := 42, ground := Ground.guard }], guard := some (42, true) }
def fo53 : Oper := { dst := some 99, op := Op.call { callee := Callee.value (Operand.func 21), args := #[Operand.tmp 97, Operand.tmp 98], argTypes := #[24, 24] }, type := 24, pos := "law.go:102", after := #[{ on := 51, ground := Ground.data }, { on := 52, ground := Ground.data }, { on := 50, ground := Ground.chain }, { on := 42, ground := Ground.guard }], guard := some (42, true) }
def fo54 : Oper := { dst := some 100, op := Op.call { callee := Callee.value (Operand.func 43), args := #[Operand.tmp 96, Operand.tmp 99], argTypes := #[24, 24] }, type := 24, pos := "law.go:102", after := #[{ on := 50, ground := Ground.data }, { on := 53, ground := Ground.data }, { on := 53, ground := Ground.chain }, { on := 42, ground := Ground.guard }], guard := some (42, true) }
def fo55 : Oper := { dst := some 101, op := Op.call { callee := Callee.value (Operand.func 20), args := #[Operand.tmp 93, Operand.tmp 100], argTypes := #[24, 24] }, type := 4, pos := "law.go:102", after := #[{ on := 47, ground := Ground.data }, { on := 54, ground := Ground.data }, { on := 54, ground := Ground.chain }, { on := 42, ground := Ground.guard }], guard := some (42, true) }
def fo56 : Oper := { dst := some 102, op := Op.pick (Operand.tmp 88) (Operand.tmp 101) (Operand.const (Value.bool false)), type := 4, pos := "law.go:99", after := #[{ on := 42, ground := Ground.data }, { on := 55, ground := Ground.data }], guard := none }
def fo57 : Oper := { dst := some 103, op := Op.move (Operand.tmp 102), type := 4, pos := "law.go:99", after := #[{ on := 56, ground := Ground.data }, { on := 55, ground := Ground.chain }], guard := none }
def fo58 : Oper := { dst := some 104, op := Op.load 24 (Operand.tmp 3), type := 24, pos := "law.go:99", after := #[{ on := 57, ground := Ground.guard }], guard := some (57, true) }
def fo59 : Oper := { dst := some 105, op := Op.load 24 (Operand.tmp 3), type := 24, pos := "law.go:99", after := #[{ on := 57, ground := Ground.guard }], guard := some (57, true) }
def fo60 : Oper := { dst := some 106, op := Op.call { callee := Callee.value (Operand.func 45), args := #[Operand.tmp 104, Operand.tmp 105], argTypes := #[24, 24] }, type := 24, pos := "law.go:103", after := #[{ on := 58, ground := Ground.data }, { on := 59, ground := Ground.data }, { on := 57, ground := Ground.chain }, { on := 57, ground := Ground.guard }], guard := some (57, true) }
def fo61 : Oper := { dst := some 107, op := Op.load 24 (Operand.tmp 7), type := 24, pos := "law.go:99", after := #[{ on := 57, ground := Ground.guard }], guard := some (57, true) }
def fo62 : Oper := { dst := some 108, op := Op.call { callee := Callee.value (Operand.func 20), args := #[Operand.tmp 106, Operand.tmp 107], argTypes := #[24, 24] }, type := 4, pos := "law.go:103", after := #[{ on := 60, ground := Ground.data }, { on := 61, ground := Ground.data }, { on := 60, ground := Ground.chain }, { on := 57, ground := Ground.guard }], guard := some (57, true) }
def fo63 : Oper := { dst := some 109, op := Op.pick (Operand.tmp 103) (Operand.tmp 108) (Operand.const (Value.bool false)), type := 4, pos := "law.go:99", after := #[{ on := 57, ground := Ground.data }, { on := 62, ground := Ground.data }], guard := none }
def fo64 : Oper := { dst := some 110, op := Op.move (Operand.tmp 109), type := 4, pos := "law.go:99", after := #[{ on := 63, ground := Ground.data }, { on := 62, ground := Ground.chain }], guard := none }
def fo65 : Oper := { dst := some 111, op := Op.load 24 (Operand.tmp 3), type := 24, pos := "law.go:99", after := #[{ on := 64, ground := Ground.guard }], guard := some (64, true) }
def fo66 : Oper := { dst := some 112, op := Op.load 24 (Operand.tmp 7), type := 24, pos := "law.go:99", after := #[{ on := 64, ground := Ground.guard }], guard := some (64, true) }
def fo67 : Oper := { dst := some 113, op := Op.call { callee := Callee.value (Operand.func 43), args := #[Operand.tmp 111, Operand.tmp 112], argTypes := #[24, 24] }, type := 24, pos := "law.go:103", after := #[{ on := 65, ground := Ground.data }, { on := 66, ground := Ground.data }, { on := 64, ground := Ground.chain }, { on := 64, ground := Ground.guard }], guard := some (64, true) }
def fo68 : Oper := { dst := some 114, op := Op.load 24 (Operand.tmp 3), type := 24, pos := "law.go:99", after := #[{ on := 64, ground := Ground.guard }], guard := some (64, true) }
def fo69 : Oper := { dst := some 115, op := Op.call { callee := Callee.value (Operand.func 48), args := #[Operand.tmp 114], argTypes := #[24] }, type := 24, pos := "law.go:103", after := #[{ on := 68, ground := Ground.data }, { on := 67, ground := Ground.chain }, { on := 64, ground := Ground.guard }], guard := some (64, true) }
def fo70 : Oper := { dst := some 116, op := Op.call { callee := Callee.value (Operand.func 20), args := #[Operand.tmp 113, Operand.tmp 115], argTypes := #[24, 24] }, type := 4, pos := "law.go:103", after := #[{ on := 67, ground := Ground.data }, { on := 69, ground := Ground.data }, { on := 69, ground := Ground.chain }, { on := 64, ground := Ground.guard }], guard := some (64, true) }
def fo71 : Oper := { dst := some 117, op := Op.pick (Operand.tmp 110) (Operand.tmp 116) (Operand.const (Value.bool false)), type := 4, pos := "law.go:99", after := #[{ on := 64, ground := Ground.data }, { on := 70, ground := Ground.data }], guard := none }
def fo72 : Oper := { dst := some 118, op := Op.move (Operand.tmp 117), type := 4, pos := "law.go:99", after := #[{ on := 71, ground := Ground.data }, { on := 70, ground := Ground.chain }], guard := none }
def fo73 : Oper := { dst := some 119, op := Op.load 24 (Operand.tmp 3), type := 24, pos := "law.go:99", after := #[{ on := 72, ground := Ground.guard }], guard := some (72, true) }
def fo74 : Oper := { dst := some 120, op := Op.load 24 (Operand.tmp 8), type := 24, pos := "law.go:99", after := #[{ on := 72, ground := Ground.guard }], guard := some (72, true) }
def fo75 : Oper := { dst := some 121, op := Op.call { callee := Callee.value (Operand.func 21), args := #[Operand.tmp 119, Operand.tmp 120], argTypes := #[24, 24] }, type := 24, pos := "law.go:103", after := #[{ on := 73, ground := Ground.data }, { on := 74, ground := Ground.data }, { on := 72, ground := Ground.chain }, { on := 72, ground := Ground.guard }], guard := some (72, true) }
def fo76 : Oper := { dst := some 122, op := Op.load 24 (Operand.tmp 3), type := 24, pos := "law.go:99", after := #[{ on := 72, ground := Ground.guard }], guard := some (72, true) }
def fo77 : Oper := { dst := some 123, op := Op.call { callee := Callee.value (Operand.func 48), args := #[Operand.tmp 122], argTypes := #[24] }, type := 24, pos := "law.go:103", after := #[{ on := 76, ground := Ground.data }, { on := 75, ground := Ground.chain }, { on := 72, ground := Ground.guard }], guard := some (72, true) }
def fo78 : Oper := { dst := some 124, op := Op.call { callee := Callee.value (Operand.func 20), args := #[Operand.tmp 121, Operand.tmp 123], argTypes := #[24, 24] }, type := 4, pos := "law.go:103", after := #[{ on := 75, ground := Ground.data }, { on := 77, ground := Ground.data }, { on := 77, ground := Ground.chain }, { on := 72, ground := Ground.guard }], guard := some (72, true) }
def fo79 : Oper := { dst := some 125, op := Op.pick (Operand.tmp 118) (Operand.tmp 124) (Operand.const (Value.bool false)), type := 4, pos := "law.go:99", after := #[{ on := 72, ground := Ground.data }, { on := 78, ground := Ground.data }], guard := none }
def fo80 : Oper := { dst := some 126, op := Op.move (Operand.tmp 125), type := 4, pos := "law.go:99", after := #[{ on := 79, ground := Ground.data }, { on := 78, ground := Ground.chain }], guard := none }
def fo81 : Oper := { dst := some 127, op := Op.call { callee := Callee.value (Operand.func 23), args := #[], argTypes := #[] }, type := 4, pos := "law.go:103", after := #[{ on := 80, ground := Ground.chain }, { on := 80, ground := Ground.guard }], guard := some (80, true) }
def fo82 : Oper := { dst := some 128, op := Op.pick (Operand.tmp 126) (Operand.tmp 127) (Operand.const (Value.bool false)), type := 4, pos := "law.go:99", after := #[{ on := 80, ground := Ground.data }, { on := 81, ground := Ground.data }], guard := none }
def fo83 : Oper := { dst := some 6, op := Op.assign (Operand.tmp 128), type := 4, pos := "law.go:99", after := ([{ on := 82, ground := Ground.data }, { on := 81, ground := Ground.chain }, { on := 0, ground := Ground.phase }, { on := 1, ground := Ground.phase }, { on := 2, ground := Ground.phase }, { on := 3, ground := Ground.phase }, { on := 4, ground := Ground.phase }, { on := 5, ground := Ground.phase }, { on := 6, ground := Ground.phase }, { on := 7, ground := Ground.phase }, { on := 8, ground := Ground.phase }, { on := 9, ground := Ground.phase }, { on := 10, ground := Ground.phase }, { on := 11, ground := Ground.phase }, { on := 12, ground := Ground.phase }, { on := 13, ground := Ground.phase }, { on := 14, ground := Ground.phase }, { on := 15, ground := Ground.phase }, { on := 16, ground := Ground.phase }, { on := 17, ground := Ground.phase }, { on := 18, ground := Ground.phase }, { on := 19, ground := Ground.phase }, { on := 20, ground := Ground.phase }, { on := 21, ground := Ground.phase }, { on := 22, ground := Ground.phase }, { on := 23, ground := Ground.phase }, { on := 24, ground := Ground.phase }, { on := 25, ground := Ground.phase }, { on := 26, ground := Ground.phase }, { on := 27, ground := Ground.phase }, { on := 28, ground := Ground.phase }, { on := 29, ground := Ground.phase }, { on := 30, ground := Ground.phase }, { on := 31, ground := Ground.phase }, { on := 32, ground := Ground.phase }, { on := 33, ground := Ground.phase }, { on := 34, ground := Ground.phase }, { on := 35, ground := Ground.phase }, { on := 36, ground := Ground.phase }, { on := 37, ground := Ground.phase }, { on := 38, ground := Ground.phase }, { on := 39, ground := Ground.phase }].append [{ on := 40, ground := Ground.phase }, { on := 41, ground := Ground.phase }, { on := 42, ground := Ground.phase }, { on := 43, ground := Ground.phase }, { on := 44, ground := Ground.phase }, { on := 45, ground := Ground.phase }, { on := 46, ground := Ground.phase }, { on := 47, ground := Ground.phase }, { on := 48, ground := Ground.phase }, { on := 49, ground := Ground.phase }, { on := 50, ground := Ground.phase }, { on := 51, ground := Ground.phase }, { on := 52, ground := Ground.phase }, { on := 53, ground := Ground.phase }, { on := 54, ground := Ground.phase }, { on := 55, ground := Ground.phase }, { on := 56, ground := Ground.phase }, { on := 57, ground := Ground.phase }, { on := 58, ground := Ground.phase }, { on := 59, ground := Ground.phase }, { on := 60, ground := Ground.phase }, { on := 61, ground := Ground.phase }, { on := 62, ground := Ground.phase }, { on := 63, ground := Ground.phase }, { on := 64, ground := Ground.phase }, { on := 65, ground := Ground.phase }, { on := 66, ground := Ground.phase }, { on := 67, ground := Ground.phase }, { on := 68, ground := Ground.phase }, { on := 69, ground := Ground.phase }, { on := 70, ground := Ground.phase }, { on := 71, ground := Ground.phase }, { on := 72, ground := Ground.phase }, { on := 73, ground := Ground.phase }, { on := 74, ground := Ground.phase }, { on := 75, ground := Ground.phase }, { on := 76, ground := Ground.phase }, { on := 77, ground := Ground.phase }, { on := 78, ground := Ground.phase }, { on := 79, ground := Ground.phase }, { on := 80, ground := Ground.phase }, { on := 81, ground := Ground.phase }, { on := 82, ground := Ground.phase }]).toArray, guard := none }
def FL : List Oper := [fo0, fo1, fo2, fo3, fo4, fo5, fo6, fo7, fo8, fo9, fo10, fo11, fo12, fo13, fo14, fo15, fo16, fo17, fo18, fo19, fo20, fo21, fo22, fo23, fo24, fo25, fo26, fo27, fo28, fo29, fo30, fo31, fo32, fo33, fo34, fo35, fo36, fo37, fo38, fo39, fo40, fo41, fo42, fo43, fo44, fo45, fo46, fo47, fo48, fo49, fo50, fo51, fo52, fo53, fo54, fo55, fo56, fo57, fo58, fo59, fo60, fo61, fo62, fo63, fo64, fo65, fo66, fo67, fo68, fo69, fo70, fo71, fo72, fo73, fo74, fo75, fo76, fo77, fo78, fo79, fo80, fo81, fo82, fo83]
def FO : Array Oper := FL.toArray
def FV (X1 X2 X3 : Rat) (b1 : Bool) (A1 B1 : Option Addr) (n1 c1 m1 e1 : Nat) (b2 : Bool) (A2 B2 : Option Addr) (n2 c2 m2 e2 : Nat) (b3 : Bool) (A3 B3 : Option Addr) (n3 c3 m3 e3 : Nat) (b4 : Bool) (A4 B4 : Option Addr) (n4 c4 m4 e4 : Nat) (b5 : Bool) (A5 B5 : Option Addr) (n5 c5 m5 e5 : Nat) : List (Sum Value (Nat × Rat)) := [.inl (.agg #[.bool b1, .slice A1 n1 c1, .slice B1 m1 e1]), .inl (.agg #[.bool b2, .slice A2 n2 c2, .slice B2 m2 e2]), .inr (19, (X1 + X2)), .inl (.agg #[.bool b3, .slice A3 n3 c3, .slice B3 m3 e3]), .inr (30, ((X1 + X2) + X3)), .inl (.agg #[.bool b1, .slice A1 n1 c1, .slice B1 m1 e1]), .inl (.agg #[.bool b2, .slice A2 n2 c2, .slice B2 m2 e2]), .inl (.agg #[.bool b3, .slice A3 n3 c3, .slice B3 m3 e3]), .inr (19, (X2 + X3)), .inr (30, (X1 + (X2 + X3))), .inl (.bool true), .inl (.bool true), .inl (.agg #[.bool b1, .slice A1 n1 c1, .slice B1 m1 e1]), .inl (.agg #[.bool b2, .slice A2 n2 c2, .slice B2 m2 e2]), .inr (18, (X1 * X2)), .inl (.agg #[.bool b3, .slice A3 n3 c3, .slice B3 m3 e3]), .inr (28, ((X1 * X2) * X3)), .inl (.agg #[.bool b1, .slice A1 n1 c1, .slice B1 m1 e1]), .inl (.agg #[.bool b2, .slice A2 n2 c2, .slice B2 m2 e2]), .inl (.agg #[.bool b3, .slice A3 n3 c3, .slice B3 m3 e3]), .inr (18, (X2 * X3)), .inr (28, (X1 * (X2 * X3))), .inl (.bool true), .inl (.bool true), .inl (.bool true), .inl (.agg #[.bool b1, .slice A1 n1 c1, .slice B1 m1 e1]), .inl (.agg #[.bool b2, .slice A2 n2 c2, .slice B2 m2 e2]), .inr (19, (X1 + X2)), .inl (.agg #[.bool b2, .slice A2 n2 c2, .slice B2 m2 e2]), .inl (.agg #[.bool b1, .slice A1 n1 c1, .slice B1 m1 e1]), .inr (19, (X2 + X1)), .inl (.bool true), .inl (.bool true), .inl (.bool true), .inl (.agg #[.bool b1, .slice A1 n1 c1, .slice B1 m1 e1]), .inl (.agg #[.bool b2, .slice A2 n2 c2, .slice B2 m2 e2]), .inr (18, (X1 * X2)), .inl (.agg #[.bool b2, .slice A2 n2 c2, .slice B2 m2 e2]), .inl (.agg #[.bool b1, .slice A1 n1 c1, .slice B1 m1 e1]), .inr (18, (X2 * X1)), .inl (.bool true), .inl (.bool true), .inl (.bool true), .inl (.agg #[.bool b1, .slice A1 n1 c1, .slice B1 m1 e1]), .inl (.agg #[.bool b2, .slice A2 n2 c2, .slice B2 m2 e2]), .inl (.agg #[.bool b3, .slice A3 n3 c3, .slice B3 m3 e3]), .inr (19, (X2 + X3)), .inr (29, (X1 * (X2 + X3))), .inl (.agg #[.bool b1, .slice A1 n1 c1, .slice B1 m1 e1]), .inl (.agg #[.bool b2, .slice A2 n2 c2, .slice B2 m2 e2]), .inr (18, (X1 * X2)), .inl (.agg #[.bool b1, .slice A1 n1 c1, .slice B1 m1 e1]), .inl (.agg #[.bool b3, .slice A3 n3 c3, .slice B3 m3 e3]), .inr (18, (X1 * X3)), .inr (39, ((X1 * X2) + (X1 * X3))), .inl (.bool true), .inl (.bool true), .inl (.bool true), .inl (.agg #[.bool b1, .slice A1 n1 c1, .slice B1 m1 e1]), .inl (.agg #[.bool b1, .slice A1 n1 c1, .slice B1 m1 e1]), .inr (19, (X1 - X1)), .inl (.agg #[.bool b4, .slice A4 n4 c4, .slice B4 m4 e4]), .inl (.bool true), .inl (.bool true), .inl (.bool true), .inl (.agg #[.bool b1, .slice A1 n1 c1, .slice B1 m1 e1]), .inl (.agg #[.bool b4, .slice A4 n4 c4, .slice B4 m4 e4]), .inr (14, (X1 + ((0 : Int) : Rat))), .inl (.agg #[.bool b1, .slice A1 n1 c1, .slice B1 m1 e1]), .inr (9, X1), .inl (.bool true), .inl (.bool true), .inl (.bool true), .inl (.agg #[.bool b1, .slice A1 n1 c1, .slice B1 m1 e1]), .inl (.agg #[.bool b5, .slice A5 n5 c5, .slice B5 m5 e5]), .inr (13, (X1 * ((1 : Int) : Rat))), .inl (.agg #[.bool b1, .slice A1 n1 c1, .slice B1 m1 e1]), .inr (9, X1), .inl (.bool true), .inl (.bool true), .inl (.bool true), .inl (.bool true), .inl (.bool true), .inl (.bool true)]
set_option maxRecDepth 100000 in
set_option maxHeartbeats 8000000 in
theorem field_region {Q : Exit → Act → World → Prop} {a0 : Act} {W : World} {X1 X2 X3 : Rat} {b1 : Bool} {A1 B1 : Option Addr} {n1 c1 m1 e1 : Nat} {b2 : Bool} {A2 B2 : Option Addr} {n2 c2 m2 e2 : Nat} {b3 : Bool} {A3 B3 : Option Addr} {n3 c3 m3 e3 : Nat} {b4 : Bool} {A4 B4 : Option Addr} {n4 c4 m4 e4 : Nat} {b5 : Bool} {A5 B5 : Option Addr} {n5 c5 m5 e5 : Nat} {g1 g2 g3 g4 g5 : Nat}
    (hz : a0.tmps.size = 129) (p3 : a0.tmps.getD 3 undef = .pointer (some ⟨g1, 0, none⟩)) (p4 : a0.tmps.getD 4 undef = .pointer (some ⟨g2, 0, none⟩)) (p5 : a0.tmps.getD 5 undef = .pointer (some ⟨g3, 0, none⟩)) (p7 : a0.tmps.getD 7 undef = .pointer (some ⟨g4, 0, none⟩)) (p8 : a0.tmps.getD 8 undef = .pointer (some ⟨g5, 0, none⟩))
    (HK1 : ∀ w', Below W.heap.size W w' → (w'.cell? ⟨g1, 0, none⟩ = some (.bool b1) ∧ w'.cell? ⟨g1, 1, none⟩ = some (.slice A1 n1 c1) ∧ w'.cell? ⟨g1, 2, none⟩ = some (.slice B1 m1 e1))) (HK2 : ∀ w', Below W.heap.size W w' → (w'.cell? ⟨g2, 0, none⟩ = some (.bool b2) ∧ w'.cell? ⟨g2, 1, none⟩ = some (.slice A2 n2 c2) ∧ w'.cell? ⟨g2, 2, none⟩ = some (.slice B2 m2 e2))) (HK3 : ∀ w', Below W.heap.size W w' → (w'.cell? ⟨g3, 0, none⟩ = some (.bool b3) ∧ w'.cell? ⟨g3, 1, none⟩ = some (.slice A3 n3 c3) ∧ w'.cell? ⟨g3, 2, none⟩ = some (.slice B3 m3 e3))) (HK4 : ∀ w', Below W.heap.size W w' → (w'.cell? ⟨g4, 0, none⟩ = some (.bool b4) ∧ w'.cell? ⟨g4, 1, none⟩ = some (.slice A4 n4 c4) ∧ w'.cell? ⟨g4, 2, none⟩ = some (.slice B4 m4 e4))) (HK5 : ∀ w', Below W.heap.size W w' → (w'.cell? ⟨g5, 0, none⟩ = some (.bool b5) ∧ w'.cell? ⟨g5, 1, none⟩ = some (.slice A5 n5 c5) ∧ w'.cell? ⟨g5, 2, none⟩ = some (.slice B5 m5 e5)))
    (N1 : Num false 8 W (.agg #[.bool b1, .slice A1 n1 c1, .slice B1 m1 e1]) X1) (N2 : Num false 8 W (.agg #[.bool b2, .slice A2 n2 c2, .slice B2 m2 e2]) X2) (N3 : Num false 8 W (.agg #[.bool b3, .slice A3 n3 c3, .slice B3 m3 e3]) X3) (N4 : Num true 3 W (.agg #[.bool b4, .slice A4 n4 c4, .slice B4 m4 e4]) ((0 : Int) : Rat)) (N5 : Num true 3 W (.agg #[.bool b5, .slice A5 n5 c5, .slice B5 m5 e5]) ((1 : Int) : Rat))
    (hend : ∀ a' w', Below W.heap.size W w' → a'.tmps.getD 6 undef = .bool true → a'.defers = a0.defers → Q .normal a' w') : (Code.region 8 FO true).wp Try.prog Q a0 W := by
  have EF : X1 - X1 = ((0 : Int) : Rat) := by rw [Rat.sub_self]; rfl
  have EG : X1 + ((0 : Int) : Rat) = X1 := Rat.add_zero X1
  have EH : X1 * ((1 : Int) : Rat) = X1 := Rat.mul_one X1
  have nd3 := no_dst (t := 3) (ops := FO) (by kernel_rfl)
  have nd4 := no_dst (t := 4) (ops := FO) (by kernel_rfl)
  have nd5 := no_dst (t := 5) (ops := FO) (by kernel_rfl)
  have nd7 := no_dst (t := 7) (ops := FO) (by kernel_rfl)
  have nd8 := no_dst (t := 8) (ops := FO) (by kernel_rfl)
  refine wp_region_each (vat (FV X1 X2 X3 b1 A1 B1 n1 c1 m1 e1 b2 A2 B2 n2 c2 m2 e2 b3 A3 B3 n3 c3 m3 e3 b4 A4 B4 n4 c4 m4 e4 b5 A5 B5 n5 c5 m5 e5)) (fun w' => Below W.heap.size W w') (fun w w' => Below w.heap.size w w') (by kernel_rfl) (by rw [hz]; kernel_rfl) (bl_drew (Below.refl _ _)) (fun j w w' v hb h => vat_below _ j w w' v hb h) ?_ ?_
  · refine ⟨?_, ?_, ?_, ?_, ?_, ?_, ?_, ?_, ?_, ?_, ?_, ?_, ?_, ?_, ?_, ?_, ?_, ?_, ?_, ?_, ?_, ?_, ?_, ?_, ?_, ?_, ?_, ?_, ?_, ?_, ?_, ?_, ?_, ?_, ?_, ?_, ?_, ?_, ?_, ?_, ?_, ?_, ?_, ?_, ?_, ?_, ?_, ?_, ?_, ?_, ?_, ?_, ?_, ?_, ?_, ?_, ?_, ?_, ?_, ?_, ?_, ?_, ?_, ?_, ?_, ?_, ?_, ?_, ?_, ?_, ?_, ?_, ?_, ?_, ?_, ?_, ?_, ?_, ?_, ?_, ?_, ?_, ?_, ?_, trivial⟩
    · intro a w hs hsz hb hd K' hK
      rw [if_pos (wanted_none (o := fo0) rfl)]
      exact op_load rfl ((hb 3 nd3).trans p3) (HK1 w hs).1 (HK1 w hs).2.1 (HK1 w hs).2.2 (hK _ _ hs (Below.refl _ _) rfl)
    · intro a w hs hsz hb hd K' hK
      rw [if_pos (wanted_none (o := fo1) rfl)]
      exact op_load rfl ((hb 4 nd4).trans p4) (HK2 w hs).1 (HK2 w hs).2.1 (HK2 w hs).2.2 (hK _ _ hs (Below.refl _ _) rfl)
    · intro a w hs hsz hb hd K' hK
      rw [if_pos (wanted_none (o := fo2) rfl)]
      have x0 : a.tmps.getD 46 undef = (.agg #[.bool b1, .slice A1 n1 c1, .slice B1 m1 e1]) := hd ⟨0, .data⟩ (by simp [fo2]) rfl fo0 46 rfl rfl
      have H0 : Num false 8 w (a.tmps.getD 46 undef) X1 := by rw [x0]; exact N1.below hs
      have x1 : a.tmps.getD 47 undef = (.agg #[.bool b2, .slice A2 n2 c2, .slice B2 m2 e2]) := hd ⟨1, .data⟩ (by simp [fo2]) rfl fo1 47 rfl rfl
      have H1 : Num false 8 w (a.tmps.getD 47 undef) X2 := by rw [x1]; exact N2.below hs
      refine op_call2 enters_add rfl ?_
      refine (add_n H0 H1 (Nat.le_of_ble_eq_true rfl) (Nat.le_of_ble_eq_true rfl)).mono ?_
      rintro e w1 ⟨z, rfl, hz1, hb1⟩
      exact ⟨z, rfl, hK _ _ (bl_call hs hb1) hb1 hz1⟩
    · intro a w hs hsz hb hd K' hK
      rw [if_pos (wanted_none (o := fo3) rfl)]
      exact op_load rfl ((hb 5 nd5).trans p5) (HK3 w hs).1 (HK3 w hs).2.1 (HK3 w hs).2.2 (hK _ _ hs (Below.refl _ _) rfl)
    · intro a w hs hsz hb hd K' hK
      rw [if_pos (wanted_none (o := fo4) rfl)]
      have H0 : Num true 19 w (a.tmps.getD 48 undef) (X1 + X2) := hd ⟨2, .data⟩ (by simp [fo4]) rfl fo2 48 rfl rfl
      have x1 : a.tmps.getD 49 undef = (.agg #[.bool b3, .slice A3 n3 c3, .slice B3 m3 e3]) := hd ⟨3, .data⟩ (by simp [fo4]) rfl fo3 49 rfl rfl
      have H1 : Num false 8 w (a.tmps.getD 49 undef) X3 := by rw [x1]; exact N3.below hs
      refine op_call2 enters_add rfl ?_
      refine (add_n H0 H1 (Nat.le_of_ble_eq_true rfl) (Nat.le_of_ble_eq_true rfl)).mono ?_
      rintro e w1 ⟨z, rfl, hz1, hb1⟩
      exact ⟨z, rfl, hK _ _ (bl_call hs hb1) hb1 hz1⟩
    · intro a w hs hsz hb hd K' hK
      rw [if_pos (wanted_none (o := fo5) rfl)]
      exact op_load rfl ((hb 3 nd3).trans p3) (HK1 w hs).1 (HK1 w hs).2.1 (HK1 w hs).2.2 (hK _ _ hs (Below.refl _ _) rfl)
    · intro a w hs hsz hb hd K' hK
      rw [if_pos (wanted_none (o := fo6) rfl)]
      exact op_load rfl ((hb 4 nd4).trans p4) (HK2 w hs).1 (HK2 w hs).2.1 (HK2 w hs).2.2 (hK _ _ hs (Below.refl _ _) rfl)
    · intro a w hs hsz hb hd K' hK
      rw [if_pos (wanted_none (o := fo7) rfl)]
      exact op_load rfl ((hb 5 nd5).trans p5) (HK3 w hs).1 (HK3 w hs).2.1 (HK3 w hs).2.2 (hK _ _ hs (Below.refl _ _) rfl)
    · intro a w hs hsz hb hd K' hK
      rw [if_pos (wanted_none (o := fo8) rfl)]
      have x0 : a.tmps.getD 52 undef = (.agg #[.bool b2, .slice A2 n2 c2, .slice B2 m2 e2]) := hd ⟨6, .data⟩ (by simp [fo8]) rfl fo6 52 rfl rfl
      have H0 : Num false 8 w (a.tmps.getD 52 undef) X2 := by rw [x0]; exact N2.below hs
      have x1 : a.tmps.getD 53 undef = (.agg #[.bool b3, .slice A3 n3 c3, .slice B3 m3 e3]) := hd ⟨7, .data⟩ (by simp [fo8]) rfl fo7 53 rfl rfl
      have H1 : Num false 8 w (a.tmps.getD 53 undef) X3 := by rw [x1]; exact N3.below hs
      refine op_call2 enters_add rfl ?_
      refine (add_n H0 H1 (Nat.le_of_ble_eq_true rfl) (Nat.le_of_ble_eq_true rfl)).mono ?_
      rintro e w1 ⟨z, rfl, hz1, hb1⟩
      exact ⟨z, rfl, hK _ _ (bl_call hs hb1) hb1 hz1⟩
    · intro a w hs hsz hb hd K' hK
      rw [if_pos (wanted_none (o := fo9) rfl)]
      have x0 : a.tmps.getD 51 undef = (.agg #[.bool b1, .slice A1 n1 c1, .slice B1 m1 e1]) := hd ⟨5, .data⟩ (by simp [fo9]) rfl fo5 51 rfl rfl
      have H0 : Num false 8 w (a.tmps.getD 51 undef) X1 := by rw [x0]; exact N1.below hs
      have H1 : Num true 19 w (a.tmps.getD 54 undef) (X2 + X3) := hd ⟨8, .data⟩ (by simp [fo9]) rfl fo8 54 rfl rfl
      refine op_call2 enters_add rfl ?_
      refine (add_n H0 H1 (Nat.le_of_ble_eq_true rfl) (Nat.le_of_ble_eq_true rfl)).mono ?_
      rintro e w1 ⟨z, rfl, hz1, hb1⟩
      exact ⟨z, rfl, hK _ _ (bl_call hs hb1) hb1 hz1⟩
    · intro a w hs hsz hb hd K' hK
      rw [if_pos (wanted_none (o := fo10) rfl)]
      have H0 : Num true 30 w (a.tmps.getD 50 undef) ((X1 + X2) + X3) := hd ⟨4, .data⟩ (by simp [fo10]) rfl fo4 50 rfl rfl
      have H1 : Num true 30 w (a.tmps.getD 55 undef) (X1 + (X2 + X3)) := hd ⟨9, .data⟩ (by simp [fo10]) rfl fo9 55 rfl rfl
      refine op_call2 enters_same rfl ?_
      refine (same_n H0 H1 (Rat.add_assoc X1 X2 X3)).mono ?_
      rintro e w1 ⟨rfl, hb1⟩
      exact ⟨_, rfl, hK _ _ (bl_call hs hb1) hb1 rfl⟩
    · intro a w hs hsz hb hd K' hK
      rw [if_pos (wanted_none (o := fo11) rfl)]
      have x : a.tmps.getD 56 undef = .bool true := hd ⟨10, .data⟩ (by simp [fo11]) rfl fo10 56 rfl rfl
      exact BigFrame.wp_move (.tmp 56) rfl (hK _ _ hs (Below.refl _ _) x)
    · intro a w hs hsz hb hd K' hK
      have hg : a.tmps.getD 57 undef = .bool true := hd ⟨11, .guard⟩ (by simp [fo12]) rfl fo11 57 rfl rfl
      rw [if_pos (wanted_some (ops := FO) (o := fo12) (g := 11) (d := 57) (b := true) rfl rfl hg)]
      exact op_load rfl ((hb 3 nd3).trans p3) (HK1 w hs).1 (HK1 w hs).2.1 (HK1 w hs).2.2 (hK _ _ hs (Below.refl _ _) rfl)
    · intro a w hs hsz hb hd K' hK
      have hg : a.tmps.getD 57 undef = .bool true := hd ⟨11, .guard⟩ (by simp [fo13]) rfl fo11 57 rfl rfl
      rw [if_pos (wanted_some (ops := FO) (o := fo13) (g := 11) (d := 57) (b := true) rfl rfl hg)]
      exact op_load rfl ((hb 4 nd4).trans p4) (HK2 w hs).1 (HK2 w hs).2.1 (HK2 w hs).2.2 (hK _ _ hs (Below.refl _ _) rfl)
    · intro a w hs hsz hb hd K' hK
      have hg : a.tmps.getD 57 undef = .bool true := hd ⟨11, .chain⟩ (by simp [fo14]) rfl fo11 57 rfl rfl
      rw [if_pos (wanted_some (ops := FO) (o := fo14) (g := 11) (d := 57) (b := true) rfl rfl hg)]
      have x0 : a.tmps.getD 58 undef = (.agg #[.bool b1, .slice A1 n1 c1, .slice B1 m1 e1]) := hd ⟨12, .data⟩ (by simp [fo14]) rfl fo12 58 rfl rfl
      have H0 : Num false 8 w (a.tmps.getD 58 undef) X1 := by rw [x0]; exact N1.below hs
      have x1 : a.tmps.getD 59 undef = (.agg #[.bool b2, .slice A2 n2 c2, .slice B2 m2 e2]) := hd ⟨13, .data⟩ (by simp [fo14]) rfl fo13 59 rfl rfl
      have H1 : Num false 8 w (a.tmps.getD 59 undef) X2 := by rw [x1]; exact N2.below hs
      refine op_call2 enters_mul rfl ?_
      refine (mul_n H0 H1 (Nat.le_of_ble_eq_true rfl) (Nat.le_of_ble_eq_true rfl)).mono ?_
      rintro e w1 ⟨z, rfl, hz1, hb1⟩
      exact ⟨z, rfl, hK _ _ (bl_call hs hb1) hb1 hz1⟩
    · intro a w hs hsz hb hd K' hK
      have hg : a.tmps.getD 57 undef = .bool true := hd ⟨11, .guard⟩ (by simp [fo15]) rfl fo11 57 rfl rfl
      rw [if_pos (wanted_some (ops := FO) (o := fo15) (g := 11) (d := 57) (b := true) rfl rfl hg)]
      exact op_load rfl ((hb 5 nd5).trans p5) (HK3 w hs).1 (HK3 w hs).2.1 (HK3 w hs).2.2 (hK _ _ hs (Below.refl _ _) rfl)
    · intro a w hs hsz hb hd K' hK
      have hg : a.tmps.getD 57 undef = .bool true := hd ⟨11, .guard⟩ (by simp [fo16]) rfl fo11 57 rfl rfl
      rw [if_pos (wanted_some (ops := FO) (o := fo16) (g := 11) (d := 57) (b := true) rfl rfl hg)]
      have H0 : Num true 18 w (a.tmps.getD 60 undef) (X1 * X2) := hd ⟨14, .data⟩ (by simp [fo16]) rfl fo14 60 rfl rfl
      have x1 : a.tmps.getD 61 undef = (.agg #[.bool b3, .slice A3 n3 c3, .slice B3 m3 e3]) := hd ⟨15, .data⟩ (by simp [fo16]) rfl fo15 61 rfl rfl
      have H1 : Num false 8 w (a.tmps.getD 61 undef) X3 := by rw [x1]; exact N3.below hs
      refine op_call2 enters_mul rfl ?_
      refine (mul_n H0 H1 (Nat.le_of_ble_eq_true rfl) (Nat.le_of_ble_eq_true rfl)).mono ?_
      rintro e w1 ⟨z, rfl, hz1, hb1⟩
      exact ⟨z, rfl, hK _ _ (bl_call hs hb1) hb1 hz1⟩
    · intro a w hs hsz hb hd K' hK
      have hg : a.tmps.getD 57 undef = .bool true := hd ⟨11, .guard⟩ (by simp [fo17]) rfl fo11 57 rfl rfl
      rw [if_pos (wanted_some (ops := FO) (o := fo17) (g := 11) (d := 57) (b := true) rfl rfl hg)]
      exact op_load rfl ((hb 3 nd3).trans p3) (HK1 w hs).1 (HK1 w hs).2.1 (HK1 w hs).2.2 (hK _ _ hs (Below.refl _ _) rfl)
    · intro a w hs hsz hb hd K' hK
      have hg : a.tmps.getD 57 undef = .bool true := hd ⟨11, .guard⟩ (by simp [fo18]) rfl fo11 57 rfl rfl
      rw [if_pos (wanted_some (ops := FO) (o := fo18) (g := 11) (d := 57) (b := true) rfl rfl hg)]
      exact op_load rfl ((hb 4 nd4).trans p4) (HK2 w hs).1 (HK2 w hs).2.1 (HK2 w hs).2.2 (hK _ _ hs (Below.refl _ _) rfl)
    · intro a w hs hsz hb hd K' hK
      have hg : a.tmps.getD 57 undef = .bool true := hd ⟨11, .guard⟩ (by simp [fo19]) rfl fo11 57 rfl rfl
      rw [if_pos (wanted_some (ops := FO) (o := fo19) (g := 11) (d := 57) (b := true) rfl rfl hg)]
      exact op_load rfl ((hb 5 nd5).trans p5) (HK3 w hs).1 (HK3 w hs).2.1 (HK3 w hs).2.2 (hK _ _ hs (Below.refl _ _) rfl)
    · intro a w hs hsz hb hd K' hK
      have hg : a.tmps.getD 57 undef = .bool true := hd ⟨11, .guard⟩ (by simp [fo20]) rfl fo11 57 rfl rfl
      rw [if_pos (wanted_some (ops := FO) (o := fo20) (g := 11) (d := 57) (b := true) rfl rfl hg)]
      have x0 : a.tmps.getD 64 undef = (.agg #[.bool b2, .slice A2 n2 c2, .slice B2 m2 e2]) := hd ⟨18, .data⟩ (by simp [fo20]) rfl fo18 64 rfl rfl
      have H0 : Num false 8 w (a.tmps.getD 64 undef) X2 := by rw [x0]; exact N2.below hs
      have x1 : a.tmps.getD 65 undef = (.agg #[.bool b3, .slice A3 n3 c3, .slice B3 m3 e3]) := hd ⟨19, .data⟩ (by simp [fo20]) rfl fo19 65 rfl rfl
      have H1 : Num false 8 w (a.tmps.getD 65 undef) X3 := by rw [x1]; exact N3.below hs
      refine op_call2 enters_mul rfl ?_
      refine (mul_n H0 H1 (Nat.le_of_ble_eq_true rfl) (Nat.le_of_ble_eq_true rfl)).mono ?_
      rintro e w1 ⟨z, rfl, hz1, hb1⟩
      exact ⟨z, rfl, hK _ _ (bl_call hs hb1) hb1 hz1⟩
    · intro a w hs hsz hb hd K' hK
      have hg : a.tmps.getD 57 undef = .bool true := hd ⟨11, .guard⟩ (by simp [fo21]) rfl fo11 57 rfl rfl
      rw [if_pos (wanted_some (ops := FO) (o := fo21) (g := 11) (d := 57) (b := true) rfl rfl hg)]
      have x0 : a.tmps.getD 63 undef = (.agg #[.bool b1, .slice A1 n1 c1, .slice B1 m1 e1]) := hd ⟨17, .data⟩ (by simp [fo21]) rfl fo17 63 rfl rfl
      have H0 : Num false 8 w (a.tmps.getD 63 undef) X1 := by rw [x0]; exact N1.below hs
      have H1 : Num true 18 w (a.tmps.getD 66 undef) (X2 * X3) := hd ⟨20, .data⟩ (by simp [fo21]) rfl fo20 66 rfl rfl
      refine op_call2 enters_mul rfl ?_
      refine (mul_n H0 H1 (Nat.le_of_ble_eq_true rfl) (Nat.le_of_ble_eq_true rfl)).mono ?_
      rintro e w1 ⟨z, rfl, hz1, hb1⟩
      exact ⟨z, rfl, hK _ _ (bl_call hs hb1) hb1 hz1⟩
    · intro a w hs hsz hb hd K' hK
      have hg : a.tmps.getD 57 undef = .bool true := hd ⟨11, .guard⟩ (by simp [fo22]) rfl fo11 57 rfl rfl
      rw [if_pos (wanted_some (ops := FO) (o := fo22) (g := 11) (d := 57) (b := true) rfl rfl hg)]
      have H0 : Num true 28 w (a.tmps.getD 62 undef) ((X1 * X2) * X3) := hd ⟨16, .data⟩ (by simp [fo22]) rfl fo16 62 rfl rfl
      have H1 : Num true 28 w (a.tmps.getD 67 undef) (X1 * (X2 * X3)) := hd ⟨21, .data⟩ (by simp [fo22]) rfl fo21 67 rfl rfl
      refine op_call2 enters_same rfl ?_
      refine (same_n H0 H1 (Rat.mul_assoc X1 X2 X3)).mono ?_
      rintro e w1 ⟨rfl, hb1⟩
      exact ⟨_, rfl, hK _ _ (bl_call hs hb1) hb1 rfl⟩
    · intro a w hs hsz hb hd K' hK
      rw [if_pos (wanted_none (o := fo23) rfl)]
      have xc : a.tmps.getD 57 undef = .bool true := hd ⟨11, .data⟩ (by simp [fo23]) rfl fo11 57 rfl rfl
      have x : a.tmps.getD 68 undef = .bool true := hd ⟨22, .data⟩ (by simp [fo23]) rfl fo22 68 rfl rfl
      exact op_pick rfl xc (hK _ _ hs (Below.refl _ _) x)
    · intro a w hs hsz hb hd K' hK
      rw [if_pos (wanted_none (o := fo24) rfl)]
      have x : a.tmps.getD 69 undef = .bool true := hd ⟨23, .data⟩ (by simp [fo24]) rfl fo23 69 rfl rfl
      exact BigFrame.wp_move (.tmp 69) rfl (hK _ _ hs (Below.refl _ _) x)
    · intro a w hs hsz hb hd K' hK
      have hg : a.tmps.getD 70 undef = .bool true := hd ⟨24, .guard⟩ (by simp [fo25]) rfl fo24 70 rfl rfl
      rw [if_pos (wanted_some (ops := FO) (o := fo25) (g := 24) (d := 70) (b := true) rfl rfl hg)]
      exact op_load rfl ((hb 3 nd3).trans p3) (HK1 w hs).1 (HK1 w hs).2.1 (HK1 w hs).2.2 (hK _ _ hs (Below.refl _ _) rfl)
    · intro a w hs hsz hb hd K' hK
      have hg : a.tmps.getD 70 undef = .bool true := hd ⟨24, .guard⟩ (by simp [fo26]) rfl fo24 70 rfl rfl
      rw [if_pos (wanted_some (ops := FO) (o := fo26) (g := 24) (d := 70) (b := true) rfl rfl hg)]
      exact op_load rfl ((hb 4 nd4).trans p4) (HK2 w hs).1 (HK2 w hs).2.1 (HK2 w hs).2.2 (hK _ _ hs (Below.refl _ _) rfl)
    · intro a w hs hsz hb hd K' hK
      have hg : a.tmps.getD 70 undef = .bool true := hd ⟨24, .chain⟩ (by simp [fo27]) rfl fo24 70 rfl rfl
      rw [if_pos (wanted_some (ops := FO) (o := fo27) (g := 24) (d := 70) (b := true) rfl rfl hg)]
      have x0 : a.tmps.getD 71 undef = (.agg #[.bool b1, .slice A1 n1 c1, .slice B1 m1 e1]) := hd ⟨25, .data⟩ (by simp [fo27]) rfl fo25 71 rfl rfl
      have H0 : Num false 8 w (a.tmps.getD 71 undef) X1 := by rw [x0]; exact N1.below hs
      have x1 : a.tmps.getD 72 undef = (.agg #[.bool b2, .slice A2 n2 c2, .slice B2 m2 e2]) := hd ⟨26, .data⟩ (by simp [fo27]) rfl fo26 72 rfl rfl
      have H1 : Num false 8 w (a.tmps.getD 72 undef) X2 := by rw [x1]; exact N2.below hs
      refine op_call2 enters_add rfl ?_
      refine (add_n H0 H1 (Nat.le_of_ble_eq_true rfl) (Nat.le_of_ble_eq_true rfl)).mono ?_
      rintro e w1 ⟨z, rfl, hz1, hb1⟩
      exact ⟨z, rfl, hK _ _ (bl_call hs hb1) hb1 hz1⟩
    · intro a w hs hsz hb hd K' hK
      have hg : a.tmps.getD 70 undef = .bool true := hd ⟨24, .guard⟩ (by simp [fo28]) rfl fo24 70 rfl rfl
      rw [if_pos (wanted_some (ops := FO) (o := fo28) (g := 24) (d := 70) (b := true) rfl rfl hg)]
      exact op_load rfl ((hb 4 nd4).trans p4) (HK2 w hs).1 (HK2 w hs).2.1 (HK2 w hs).2.2 (hK _ _ hs (Below.refl _ _) rfl)
    · intro a w hs hsz hb hd K' hK
      have hg : a.tmps.getD 70 undef = .bool true := hd ⟨24, .guard⟩ (by simp [fo29]) rfl fo24 70 rfl rfl
      rw [if_pos (wanted_some (ops := FO) (o := fo29) (g := 24) (d := 70) (b := true) rfl rfl hg)]
      exact op_load rfl ((hb 3 nd3).trans p3) (HK1 w hs).1 (HK1 w hs).2.1 (HK1 w hs).2.2 (hK _ _ hs (Below.refl _ _) rfl)
    · intro a w hs hsz hb hd K' hK
      have hg : a.tmps.getD 70 undef = .bool true := hd ⟨24, .guard⟩ (by simp [fo30]) rfl fo24 70 rfl rfl
      rw [if_pos (wanted_some (ops := FO) (o := fo30) (g := 24) (d := 70) (b := true) rfl rfl hg)]
      have x0 : a.tmps.getD 74 undef = (.agg #[.bool b2, .slice A2 n2 c2, .slice B2 m2 e2]) := hd ⟨28, .data⟩ (by simp [fo30]) rfl fo28 74 rfl rfl
      have H0 : Num false 8 w (a.tmps.getD 74 undef) X2 := by rw [x0]; exact N2.below hs
      have x1 : a.tmps.getD 75 undef = (.agg #[.bool b1, .slice A1 n1 c1, .slice B1 m1 e1]) := hd ⟨29, .data⟩ (by simp [fo30]) rfl fo29 75 rfl rfl
      have H1 : Num false 8 w (a.tmps.getD 75 undef) X1 := by rw [x1]; exact N1.below hs
      refine op_call2 enters_add rfl ?_
      refine (add_n H0 H1 (Nat.le_of_ble_eq_true rfl) (Nat.le_of_ble_eq_true rfl)).mono ?_
      rintro e w1 ⟨z, rfl, hz1, hb1⟩
      exact ⟨z, rfl, hK _ _ (bl_call hs hb1) hb1 hz1⟩
    · intro a w hs hsz hb hd K' hK
      have hg : a.tmps.getD 70 undef = .bool true := hd ⟨24, .guard⟩ (by simp [fo31]) rfl fo24 70 rfl rfl
      rw [if_pos (wanted_some (ops := FO) (o := fo31) (g := 24) (d := 70) (b := true) rfl rfl hg)]
      have H0 : Num true 19 w (a.tmps.getD 73 undef) (X1 + X2) := hd ⟨27, .data⟩ (by simp [fo31]) rfl fo27 73 rfl rfl
      have H1 : Num true 19 w (a.tmps.getD 76 undef) (X2 + X1) := hd ⟨30, .data⟩ (by simp [fo31]) rfl fo30 76 rfl rfl
      refine op_call2 enters_same rfl ?_
      refine (same_n H0 H1 (Rat.add_comm X1 X2)).mono ?_
      rintro e w1 ⟨rfl, hb1⟩
      exact ⟨_, rfl, hK _ _ (bl_call hs hb1) hb1 rfl⟩
    · intro a w hs hsz hb hd K' hK
      rw [if_pos (wanted_none (o := fo32) rfl)]
      have xc : a.tmps.getD 70 undef = .bool true := hd ⟨24, .data⟩ (by simp [fo32]) rfl fo24 70 rfl rfl
      have x : a.tmps.getD 77 undef = .bool true := hd ⟨31, .data⟩ (by simp [fo32]) rfl fo31 77 rfl rfl
      exact op_pick rfl xc (hK _ _ hs (Below.refl _ _) x)
    · intro a w hs hsz hb hd K' hK
      rw [if_pos (wanted_none (o := fo33) rfl)]
      have x : a.tmps.getD 78 undef = .bool true := hd ⟨32, .data⟩ (by simp [fo33]) rfl fo32 78 rfl rfl
      exact BigFrame.wp_move (.tmp 78) rfl (hK _ _ hs (Below.refl _ _) x)
    · intro a w hs hsz hb hd K' hK
      have hg : a.tmps.getD 79 undef = .bool true := hd ⟨33, .guard⟩ (by simp [fo34]) rfl fo33 79 rfl rfl
      rw [if_pos (wanted_some (ops := FO) (o := fo34) (g := 33) (d := 79) (b := true) rfl rfl hg)]
      exact op_load rfl ((hb 3 nd3).trans p3) (HK1 w hs).1 (HK1 w hs).2.1 (HK1 w hs).2.2 (hK _ _ hs (Below.refl _ _) rfl)
    · intro a w hs hsz hb hd K' hK
      have hg : a.tmps.getD 79 undef = .bool true := hd ⟨33, .guard⟩ (by simp [fo35]) rfl fo33 79 rfl rfl
      rw [if_pos (wanted_some (ops := FO) (o := fo35) (g := 33) (d := 79) (b := true) rfl rfl hg)]
      exact op_load rfl ((hb 4 nd4).trans p4) (HK2 w hs).1 (HK2 w hs).2.1 (HK2 w hs).2.2 (hK _ _ hs (Below.refl _ _) rfl)
    · intro a w hs hsz hb hd K' hK
      have hg : a.tmps.getD 79 undef = .bool true := hd ⟨33, .chain⟩ (by simp [fo36]) rfl fo33 79 rfl rfl
      rw [if_pos (wanted_some (ops := FO) (o := fo36) (g := 33) (d := 79) (b := true) rfl rfl hg)]
      have x0 : a.tmps.getD 80 undef = (.agg #[.bool b1, .slice A1 n1 c1, .slice B1 m1 e1]) := hd ⟨34, .data⟩ (by simp [fo36]) rfl fo34 80 rfl rfl
      have H0 : Num false 8 w (a.tmps.getD 80 undef) X1 := by rw [x0]; exact N1.below hs
      have x1 : a.tmps.getD 81 undef = (.agg #[.bool b2, .slice A2 n2 c2, .slice B2 m2 e2]) := hd ⟨35, .data⟩ (by simp [fo36]) rfl fo35 81 rfl rfl
      have H1 : Num false 8 w (a.tmps.getD 81 undef) X2 := by rw [x1]; exact N2.below hs
      refine op_call2 enters_mul rfl ?_
      refine (mul_n H0 H1 (Nat.le_of_ble_eq_true rfl) (Nat.le_of_ble_eq_true rfl)).mono ?_
      rintro e w1 ⟨z, rfl, hz1, hb1⟩
      exact ⟨z, rfl, hK _ _ (bl_call hs hb1) hb1 hz1⟩
    · intro a w hs hsz hb hd K' hK
      have hg : a.tmps.getD 79 undef = .bool true := hd ⟨33, .guard⟩ (by simp [fo37]) rfl fo33 79 rfl rfl
      rw [if_pos (wanted_some (ops := FO) (o := fo37) (g := 33) (d := 79) (b := true) rfl rfl hg)]
      exact op_load rfl ((hb 4 nd4).trans p4) (HK2 w hs).1 (HK2 w hs).2.1 (HK2 w hs).2.2 (hK _ _ hs (Below.refl _ _) rfl)
    · intro a w hs hsz hb hd K' hK
      have hg : a.tmps.getD 79 undef = .bool true := hd ⟨33, .guard⟩ (by simp [fo38]) rfl fo33 79 rfl rfl
      rw [if_pos (wanted_some (ops := FO) (o := fo38) (g := 33) (d := 79) (b := true) rfl rfl hg)]
      exact op_load rfl ((hb 3 nd3).trans p3) (HK1 w hs).1 (HK1 w hs).2.1 (HK1 w hs).2.2 (hK _ _ hs (Below.refl _ _) rfl)
    · intro a w hs hsz hb hd K' hK
      have hg : a.tmps.getD 79 undef = .bool true := hd ⟨33, .guard⟩ (by simp [fo39]) rfl fo33 79 rfl rfl
      rw [if_pos (wanted_some (ops := FO) (o := fo39) (g := 33) (d := 79) (b := true) rfl rfl hg)]
      have x0 : a.tmps.getD 83 undef = (.agg #[.bool b2, .slice A2 n2 c2, .slice B2 m2 e2]) := hd ⟨37, .data⟩ (by simp [fo39]) rfl fo37 83 rfl rfl
      have H0 : Num false 8 w (a.tmps.getD 83 undef) X2 := by rw [x0]; exact N2.below hs
      have x1 : a.tmps.getD 84 undef = (.agg #[.bool b1, .slice A1 n1 c1, .slice B1 m1 e1]) := hd ⟨38, .data⟩ (by simp [fo39]) rfl fo38 84 rfl rfl
      have H1 : Num false 8 w (a.tmps.getD 84 undef) X1 := by rw [x1]; exact N1.below hs
      refine op_call2 enters_mul rfl ?_
      refine (mul_n H0 H1 (Nat.le_of_ble_eq_true rfl) (Nat.le_of_ble_eq_true rfl)).mono ?_
      rintro e w1 ⟨z, rfl, hz1, hb1⟩
      exact ⟨z, rfl, hK _ _ (bl_call hs hb1) hb1 hz1⟩
    · intro a w hs hsz hb hd K' hK
      have hg : a.tmps.getD 79 undef = .bool true := hd ⟨33, .guard⟩ (by simp [fo40]) rfl fo33 79 rfl rfl
      rw [if_pos (wanted_some (ops := FO) (o := fo40) (g := 33) (d := 79) (b := true) rfl rfl hg)]
      have H0 : Num true 18 w (a.tmps.getD 82 undef) (X1 * X2) := hd ⟨36, .data⟩ (by simp [fo40]) rfl fo36 82 rfl rfl
      have H1 : Num true 18 w (a.tmps.getD 85 undef) (X2 * X1) := hd ⟨39, .data⟩ (by simp [fo40]) rfl fo39 85 rfl rfl
      refine op_call2 enters_same rfl ?_
      refine (same_n H0 H1 (Rat.mul_comm X1 X2)).mono ?_
      rintro e w1 ⟨rfl, hb1⟩
      exact ⟨_, rfl, hK _ _ (bl_call hs hb1) hb1 rfl⟩
    · intro a w hs hsz hb hd K' hK
      rw [if_pos (wanted_none (o := fo41) rfl)]
      have xc : a.tmps.getD 79 undef = .bool true := hd ⟨33, .data⟩ (by simp [fo41]) rfl fo33 79 rfl rfl
      have x : a.tmps.getD 86 undef = .bool true := hd ⟨40, .data⟩ (by simp [fo41]) rfl fo40 86 rfl rfl
      exact op_pick rfl xc (hK _ _ hs (Below.refl _ _) x)
    · intro a w hs hsz hb hd K' hK
      rw [if_pos (wanted_none (o := fo42) rfl)]
      have x : a.tmps.getD 87 undef = .bool true := hd ⟨41, .data⟩ (by simp [fo42]) rfl fo41 87 rfl rfl
      exact BigFrame.wp_move (.tmp 87) rfl (hK _ _ hs (Below.refl _ _) x)
    · intro a w hs hsz hb hd K' hK
      have hg : a.tmps.getD 88 undef = .bool true := hd ⟨42, .guard⟩ (by simp [fo43]) rfl fo42 88 rfl rfl
      rw [if_pos (wanted_some (ops := FO) (o := fo43) (g := 42) (d := 88) (b := true) rfl rfl hg)]
      exact op_load rfl ((hb 3 nd3).trans p3) (HK1 w hs).1 (HK1 w hs).2.1 (HK1 w hs).2.2 (hK _ _ hs (Below.refl _ _) rfl)
    · intro a w hs hsz hb hd K' hK
      have hg : a.tmps.getD 88 undef = .bool true := hd ⟨42, .guard⟩ (by simp [fo44]) rfl fo42 88 rfl rfl
      rw [if_pos (wanted_some (ops := FO) (o := fo44) (g := 42) (d := 88) (b := true) rfl rfl hg)]
      exact op_load rfl ((hb 4 nd4).trans p4) (HK2 w hs).1 (HK2 w hs).2.1 (HK2 w hs).2.2 (hK _ _ hs (Below.refl _ _) rfl)
    · intro a w hs hsz hb hd K' hK
      have hg : a.tmps.getD 88 undef = .bool true := hd ⟨42, .guard⟩ (by simp [fo45]) rfl fo42 88 rfl rfl
      rw [if_pos (wanted_some (ops := FO) (o := fo45) (g := 42) (d := 88) (b := true) rfl rfl hg)]
      exact op_load rfl ((hb 5 nd5).trans p5) (HK3 w hs).1 (HK3 w hs).2.1 (HK3 w hs).2.2 (hK _ _ hs (Below.refl _ _) rfl)
    · intro a w hs hsz hb hd K' hK
      have hg : a.tmps.getD 88 undef = .bool true := hd ⟨42, .chain⟩ (by simp [fo46]) rfl fo42 88 rfl rfl
      rw [if_pos (wanted_some (ops := FO) (o := fo46) (g := 42) (d := 88) (b := true) rfl rfl hg)]
      have x0 : a.tmps.getD 90 undef = (.agg #[.bool b2, .slice A2 n2 c2, .slice B2 m2 e2]) := hd ⟨44, .data⟩ (by simp [fo46]) rfl fo44 90 rfl rfl
      have H0 : Num false 8 w (a.tmps.getD 90 undef) X2 := by rw [x0]; exact N2.below hs
      have x1 : a.tmps.getD 91 undef = (.agg #[.bool b3, .slice A3 n3 c3, .slice B3 m3 e3]) := hd ⟨45, .data⟩ (by simp [fo46]) rfl fo45 91 rfl rfl
      have H1 : Num false 8 w (a.tmps.getD 91 undef) X3 := by rw [x1]; exact N3.below hs
      refine op_call2 enters_add rfl ?_
      refine (add_n H0 H1 (Nat.le_of_ble_eq_true rfl) (Nat.le_of_ble_eq_true rfl)).mono ?_
      rintro e w1 ⟨z, rfl, hz1, hb1⟩
      exact ⟨z, rfl, hK _ _ (bl_call hs hb1) hb1 hz1⟩
    · intro a w hs hsz hb hd K' hK
      have hg : a.tmps.getD 88 undef = .bool true := hd ⟨42, .guard⟩ (by simp [fo47]) rfl fo42 88 rfl rfl
      rw [if_pos (wanted_some (ops := FO) (o := fo47) (g := 42) (d := 88) (b := true) rfl rfl hg)]
      have x0 : a.tmps.getD 89 undef = (.agg #[.bool b1, .slice A1 n1 c1, .slice B1 m1 e1]) := hd ⟨43, .data⟩ (by simp [fo47]) rfl fo43 89 rfl rfl
      have H0 : Num false 8 w (a.tmps.getD 89 undef) X1 := by rw [x0]; exact N1.below hs
      have H1 : Num true 19 w (a.tmps.getD 92 undef) (X2 + X3) := hd ⟨46, .data⟩ (by simp [fo47]) rfl fo46 92 rfl rfl
      refine op_call2 enters_mul rfl ?_
      refine (mul_n H0 H1 (Nat.le_of_ble_eq_true rfl) (Nat.le_of_ble_eq_true rfl)).mono ?_
      rintro e w1 ⟨z, rfl, hz1, hb1⟩
      exact ⟨z, rfl, hK _ _ (bl_call hs hb1) hb1 hz1⟩
    · intro a w hs hsz hb hd K' hK
      have hg : a.tmps.getD 88 undef = .bool true := hd ⟨42, .guard⟩ (by simp [fo48]) rfl fo42 88 rfl rfl
      rw [if_pos (wanted_some (ops := FO) (o := fo48) (g := 42) (d := 88) (b := true) rfl rfl hg)]
      exact op_load rfl ((hb 3 nd3).trans p3) (HK1 w hs).1 (HK1 w hs).2.1 (HK1 w hs).2.2 (hK _ _ hs (Below.refl _ _) rfl)
    · intro a w hs hsz hb hd K' hK
      have hg : a.tmps.getD 88 undef = .bool true := hd ⟨42, .guard⟩ (by simp [fo49]) rfl fo42 88 rfl rfl
      rw [if_pos (wanted_some (ops := FO) (o := fo49) (g := 42) (d := 88) (b := true) rfl rfl hg)]
      exact op_load rfl ((hb 4 nd4).trans p4) (HK2 w hs).1 (HK2 w hs).2.1 (HK2 w hs).2.2 (hK _ _ hs (Below.refl _ _) rfl)
    · intro a w hs hsz hb hd K' hK
      have hg : a.tmps.getD 88 undef = .bool true := hd ⟨42, .guard⟩ (by simp [fo50]) rfl fo42 88 rfl rfl
      rw [if_pos (wanted_some (ops := FO) (o := fo50) (g := 42) (d := 88) (b := true) rfl rfl hg)]
      have x0 : a.tmps.getD 94 undef = (.agg #[.bool b1, .slice A1 n1 c1, .slice B1 m1 e1]) := hd ⟨48, .data⟩ (by simp [fo50]) rfl fo48 94 rfl rfl
      have H0 : Num false 8 w (a.tmps.getD 94 undef) X1 := by rw [x0]; exact N1.below hs
      have x1 : a.tmps.getD 95 undef = (.agg #[.bool b2, .slice A2 n2 c2, .slice B2 m2 e2]) := hd ⟨49, .data⟩ (by simp [fo50]) rfl fo49 95 rfl rfl
      have H1 : Num false 8 w (a.tmps.getD 95 undef) X2 := by rw [x1]; exact N2.below hs
      refine op_call2 enters_mul rfl ?_
      refine (mul_n H0 H1 (Nat.le_of_ble_eq_true rfl) (Nat.le_of_ble_eq_true rfl)).mono ?_
      rintro e w1 ⟨z, rfl, hz1, hb1⟩
      exact ⟨z, rfl, hK _ _ (bl_call hs hb1) hb1 hz1⟩
    · intro a w hs hsz hb hd K' hK
      have hg : a.tmps.getD 88 undef = .bool true := hd ⟨42, .guard⟩ (by simp [fo51]) rfl fo42 88 rfl rfl
      rw [if_pos (wanted_some (ops := FO) (o := fo51) (g := 42) (d := 88) (b := true) rfl rfl hg)]
      exact op_load rfl ((hb 3 nd3).trans p3) (HK1 w hs).1 (HK1 w hs).2.1 (HK1 w hs).2.2 (hK _ _ hs (Below.refl _ _) rfl)
    · intro a w hs hsz hb hd K' hK
      have hg : a.tmps.getD 88 undef = .bool true := hd ⟨42, .guard⟩ (by simp [fo52]) rfl fo42 88 rfl rfl
      rw [if_pos (wanted_some (ops := FO) (o := fo52) (g := 42) (d := 88) (b := true) rfl rfl hg)]
      exact op_load rfl ((hb 5 nd5).trans p5) (HK3 w hs).1 (HK3 w hs).2.1 (HK3 w hs).2.2 (hK _ _ hs (Below.refl _ _) rfl)
    · intro a w hs hsz hb hd K' hK
      have hg : a.tmps.getD 88 undef = .bool true := hd ⟨42, .guard⟩ (by simp [fo53]) rfl fo42 88 rfl rfl
      rw [if_pos (wanted_some (ops := FO) (o := fo53) (g := 42) (d := 88) (b := true) rfl rfl hg)]
      have x0 : a.tmps.getD 97 undef = (.agg #[.bool b1, .slice A1 n1 c1, .slice B1 m1 e1]) := hd ⟨51, .data⟩ (by simp [fo53]) rfl fo51 97 rfl rfl
      have H0 : Num false 8 w (a.tmps.getD 97 undef) X1 := by rw [x0]; exact N1.below hs
      have x1 : a.tmps.getD 98 undef = (.agg #[.bool b3, .slice A3 n3 c3, .slice B3 m3 e3]) := hd ⟨52, .data⟩ (by simp [fo53]) rfl fo52 98 rfl rfl
      have H1 : Num false 8 w (a.tmps.getD 98 undef) X3 := by rw [x1]; exact N3.below hs
      refine op_call2 enters_mul rfl ?_
      refine (mul_n H0 H1 (Nat.le_of_ble_eq_true rfl) (Nat.le_of_ble_eq_true rfl)).mono ?_
      rintro e w1 ⟨z, rfl, hz1, hb1⟩
      exact ⟨z, rfl, hK _ _ (bl_call hs hb1) hb1 hz1⟩
    · intro a w hs hsz hb hd K' hK
      have hg : a.tmps.getD 88 undef = .bool true := hd ⟨42, .guard⟩ (by simp [fo54]) rfl fo42 88 rfl rfl
      rw [if_pos (wanted_some (ops := FO) (o := fo54) (g := 42) (d := 88) (b := true) rfl rfl hg)]
      have H0 : Num true 18 w (a.tmps.getD 96 undef) (X1 * X2) := hd ⟨50, .data⟩ (by simp [fo54]) rfl fo50 96 rfl rfl
      have H1 : Num true 18 w (a.tmps.getD 99 undef) (X1 * X3) := hd ⟨53, .data⟩ (by simp [fo54]) rfl fo53 99 rfl rfl
      refine op_call2 enters_add rfl ?_
      refine (add_n H0 H1 (Nat.le_of_ble_eq_true rfl) (Nat.le_of_ble_eq_true rfl)).mono ?_
      rintro e w1 ⟨z, rfl, hz1, hb1⟩
      exact ⟨z, rfl, hK _ _ (bl_call hs hb1) hb1 hz1⟩
    · intro a w hs hsz hb hd K' hK
      have hg : a.tmps.getD 88 undef = .bool true := hd ⟨42, .guard⟩ (by simp [fo55]) rfl fo42 88 rfl rfl
      rw [if_pos (wanted_some (ops := FO) (o := fo55) (g := 42) (d := 88) (b := true) rfl rfl hg)]
      have H0 : Num true 29 w (a.tmps.getD 93 undef) (X1 * (X2 + X3)) := hd ⟨47, .data⟩ (by simp [fo55]) rfl fo47 93 rfl rfl
      have H1 : Num true 39 w (a.tmps.getD 100 undef) ((X1 * X2) + (X1 * X3)) := hd ⟨54, .data⟩ (by simp [fo55]) rfl fo54 100 rfl rfl
      refine op_call2 enters_same rfl ?_
      refine (same_n H0 H1 (Rat.mul_add X1 X2 X3)).mono ?_
      rintro e w1 ⟨rfl, hb1⟩
      exact ⟨_, rfl, hK _ _ (bl_call hs hb1) hb1 rfl⟩
    · intro a w hs hsz hb hd K' hK
      rw [if_pos (wanted_none (o := fo56) rfl)]
      have xc : a.tmps.getD 88 undef = .bool true := hd ⟨42, .data⟩ (by simp [fo56]) rfl fo42 88 rfl rfl
      have x : a.tmps.getD 101 undef = .bool true := hd ⟨55, .data⟩ (by simp [fo56]) rfl fo55 101 rfl rfl
      exact op_pick rfl xc (hK _ _ hs (Below.refl _ _) x)
    · intro a w hs hsz hb hd K' hK
      rw [if_pos (wanted_none (o := fo57) rfl)]
      have x : a.tmps.getD 102 undef = .bool true := hd ⟨56, .data⟩ (by simp [fo57]) rfl fo56 102 rfl rfl
      exact BigFrame.wp_move (.tmp 102) rfl (hK _ _ hs (Below.refl _ _) x)
    · intro a w hs hsz hb hd K' hK
      have hg : a.tmps.getD 103 undef = .bool true := hd ⟨57, .guard⟩ (by simp [fo58]) rfl fo57 103 rfl rfl
      rw [if_pos (wanted_some (ops := FO) (o := fo58) (g := 57) (d := 103) (b := true) rfl rfl hg)]
      exact op_load rfl ((hb 3 nd3).trans p3) (HK1 w hs).1 (HK1 w hs).2.1 (HK1 w hs).2.2 (hK _ _ hs (Below.refl _ _) rfl)
    · intro a w hs hsz hb hd K' hK
      have hg : a.tmps.getD 103 undef = .bool true := hd ⟨57, .guard⟩ (by simp [fo59]) rfl fo57 103 rfl rfl
      rw [if_pos (wanted_some (ops := FO) (o := fo59) (g := 57) (d := 103) (b := true) rfl rfl hg)]
      exact op_load rfl ((hb 3 nd3).trans p3) (HK1 w hs).1 (HK1 w hs).2.1 (HK1 w hs).2.2 (hK _ _ hs (Below.refl _ _) rfl)
    · intro a w hs hsz hb hd K' hK
      have hg : a.tmps.getD 103 undef = .bool true := hd ⟨57, .chain⟩ (by simp [fo60]) rfl fo57 103 rfl rfl
      rw [if_pos (wanted_some (ops := FO) (o := fo60) (g := 57) (d := 103) (b := true) rfl rfl hg)]
      have x0 : a.tmps.getD 104 undef = (.agg #[.bool b1, .slice A1 n1 c1, .slice B1 m1 e1]) := hd ⟨58, .data⟩ (by simp [fo60]) rfl fo58 104 rfl rfl
      have H0 : Num false 8 w (a.tmps.getD 104 undef) X1 := by rw [x0]; exact N1.below hs
      have x1 : a.tmps.getD 105 undef = (.agg #[.bool b1, .slice A1 n1 c1, .slice B1 m1 e1]) := hd ⟨59, .data⟩ (by simp [fo60]) rfl fo59 105 rfl rfl
      have H1 : Num false 8 w (a.tmps.getD 105 undef) X1 := by rw [x1]; exact N1.below hs
      refine op_call2 enters_sub rfl ?_
      refine (sub_n H0 H1 (Nat.le_of_ble_eq_true rfl) (Nat.le_of_ble_eq_true rfl)).mono ?_
      rintro e w1 ⟨z, rfl, hz1, hb1⟩
      exact ⟨z, rfl, hK _ _ (bl_call hs hb1) hb1 hz1⟩
    · intro a w hs hsz hb hd K' hK
      have hg : a.tmps.getD 103 undef = .bool true := hd ⟨57, .guard⟩ (by simp [fo61]) rfl fo57 103 rfl rfl
      rw [if_pos (wanted_some (ops := FO) (o := fo61) (g := 57) (d := 103) (b := true) rfl rfl hg)]
      exact op_load rfl ((hb 7 nd7).trans p7) (HK4 w hs).1 (HK4 w hs).2.1 (HK4 w hs).2.2 (hK _ _ hs (Below.refl _ _) rfl)
    · intro a w hs hsz hb hd K' hK
      have hg : a.tmps.getD 103 undef = .bool true := hd ⟨57, .guard⟩ (by simp [fo62]) rfl fo57 103 rfl rfl
      rw [if_pos (wanted_some (ops := FO) (o := fo62) (g := 57) (d := 103) (b := true) rfl rfl hg)]
      have H0 : Num true 19 w (a.tmps.getD 106 undef) (X1 - X1) := hd ⟨60, .data⟩ (by simp [fo62]) rfl fo60 106 rfl rfl
      have x1 : a.tmps.getD 107 undef = (.agg #[.bool b4, .slice A4 n4 c4, .slice B4 m4 e4]) := hd ⟨61, .data⟩ (by simp [fo62]) rfl fo61 107 rfl rfl
      have H1 : Num true 3 w (a.tmps.getD 107 undef) ((0 : Int) : Rat) := by rw [x1]; exact N4.below hs
      refine op_call2 enters_same rfl ?_
      refine (same_n H0 H1 EF).mono ?_
      rintro e w1 ⟨rfl, hb1⟩
      exact ⟨_, rfl, hK _ _ (bl_call hs hb1) hb1 rfl⟩
    · intro a w hs hsz hb hd K' hK
      rw [if_pos (wanted_none (o := fo63) rfl)]
      have xc : a.tmps.getD 103 undef = .bool true := hd ⟨57, .data⟩ (by simp [fo63]) rfl fo57 103 rfl rfl
      have x : a.tmps.getD 108 undef = .bool true := hd ⟨62, .data⟩ (by simp [fo63]) rfl fo62 108 rfl rfl
      exact op_pick rfl xc (hK _ _ hs (Below.refl _ _) x)
    · intro a w hs hsz hb hd K' hK
      rw [if_pos (wanted_none (o := fo64) rfl)]
      have x : a.tmps.getD 109 undef = .bool true := hd ⟨63, .data⟩ (by simp [fo64]) rfl fo63 109 rfl rfl
      exact BigFrame.wp_move (.tmp 109) rfl (hK _ _ hs (Below.refl _ _) x)
    · intro a w hs hsz hb hd K' hK
      have hg : a.tmps.getD 110 undef = .bool true := hd ⟨64, .guard⟩ (by simp [fo65]) rfl fo64 110 rfl rfl
      rw [if_pos (wanted_some (ops := FO) (o := fo65) (g := 64) (d := 110) (b := true) rfl rfl hg)]
      exact op_load rfl ((hb 3 nd3).trans p3) (HK1 w hs).1 (HK1 w hs).2.1 (HK1 w hs).2.2 (hK _ _ hs (Below.refl _ _) rfl)
    · intro a w hs hsz hb hd K' hK
      have hg : a.tmps.getD 110 undef = .bool true := hd ⟨64, .guard⟩ (by simp [fo66]) rfl fo64 110 rfl rfl
      rw [if_pos (wanted_some (ops := FO) (o := fo66) (g := 64) (d := 110) (b := true) rfl rfl hg)]
      exact op_load rfl ((hb 7 nd7).trans p7) (HK4 w hs).1 (HK4 w hs).2.1 (HK4 w hs).2.2 (hK _ _ hs (Below.refl _ _) rfl)
    · intro a w hs hsz hb hd K' hK
      have hg : a.tmps.getD 110 undef = .bool true := hd ⟨64, .chain⟩ (by simp [fo67]) rfl fo64 110 rfl rfl
      rw [if_pos (wanted_some (ops := FO) (o := fo67) (g := 64) (d := 110) (b := true) rfl rfl hg)]
      have x0 : a.tmps.getD 111 undef = (.agg #[.bool b1, .slice A1 n1 c1, .slice B1 m1 e1]) := hd ⟨65, .data⟩ (by simp [fo67]) rfl fo65 111 rfl rfl
      have H0 : Num false 8 w (a.tmps.getD 111 undef) X1 := by rw [x0]; exact N1.below hs
      have x1 : a.tmps.getD 112 undef = (.agg #[.bool b4, .slice A4 n4 c4, .slice B4 m4 e4]) := hd ⟨66, .data⟩ (by simp [fo67]) rfl fo66 112 rfl rfl
      have H1 : Num true 3 w (a.tmps.getD 112 undef) ((0 : Int) : Rat) := by rw [x1]; exact N4.below hs
      refine op_call2 enters_add rfl ?_
      refine (add_n H0 H1 (Nat.le_of_ble_eq_true rfl) (Nat.le_of_ble_eq_true rfl)).mono ?_
      rintro e w1 ⟨z, rfl, hz1, hb1⟩
      exact ⟨z, rfl, hK _ _ (bl_call hs hb1) hb1 hz1⟩
    · intro a w hs hsz hb hd K' hK
      have hg : a.tmps.getD 110 undef = .bool true := hd ⟨64, .guard⟩ (by simp [fo68]) rfl fo64 110 rfl rfl
      rw [if_pos (wanted_some (ops := FO) (o := fo68) (g := 64) (d := 110) (b := true) rfl rfl hg)]
      exact op_load rfl ((hb 3 nd3).trans p3) (HK1 w hs).1 (HK1 w hs).2.1 (HK1 w hs).2.2 (hK _ _ hs (Below.refl _ _) rfl)
    · intro a w hs hsz hb hd K' hK
      have hg : a.tmps.getD 110 undef = .bool true := hd ⟨64, .guard⟩ (by simp [fo69]) rfl fo64 110 rfl rfl
      rw [if_pos (wanted_some (ops := FO) (o := fo69) (g := 64) (d := 110) (b := true) rfl rfl hg)]
      have x0 : a.tmps.getD 114 undef = (.agg #[.bool b1, .slice A1 n1 c1, .slice B1 m1 e1]) := hd ⟨68, .data⟩ (by simp [fo69]) rfl fo68 114 rfl rfl
      have H0 : Num false 8 w (a.tmps.getD 114 undef) X1 := by rw [x0]; exact N1.below hs
      refine op_call1 enters_canon rfl ?_
      refine (canon_n H0 (Nat.le_of_ble_eq_true rfl)).mono ?_
      rintro e w1 ⟨z, rfl, hz1, hb1⟩
      exact ⟨z, rfl, hK _ _ (bl_call hs hb1) hb1 hz1⟩
    · intro a w hs hsz hb hd K' hK
      have hg : a.tmps.getD 110 undef = .bool true := hd ⟨64, .guard⟩ (by simp [fo70]) rfl fo64 110 rfl rfl
      rw [if_pos (wanted_some (ops := FO) (o := fo70) (g := 64) (d := 110) (b := true) rfl rfl hg)]
      have H0 : Num true 14 w (a.tmps.getD 113 undef) (X1 + ((0 : Int) : Rat)) := hd ⟨67, .data⟩ (by simp [fo70]) rfl fo67 113 rfl rfl
      have H1 : Num true 9 w (a.tmps.getD 115 undef) X1 := hd ⟨69, .data⟩ (by simp [fo70]) rfl fo69 115 rfl rfl
      refine op_call2 enters_same rfl ?_
      refine (same_n H0 H1 EG).mono ?_
      rintro e w1 ⟨rfl, hb1⟩
      exact ⟨_, rfl, hK _ _ (bl_call hs hb1) hb1 rfl⟩
    · intro a w hs hsz hb hd K' hK
      rw [if_pos (wanted_none (o := fo71) rfl)]
      have xc : a.tmps.getD 110 undef = .bool true := hd ⟨64, .data⟩ (by simp [fo71]) rfl fo64 110 rfl rfl
      have x : a.tmps.getD 116 undef = .bool true := hd ⟨70, .data⟩ (by simp [fo71]) rfl fo70 116 rfl rfl
      exact op_pick rfl xc (hK _ _ hs (Below.refl _ _) x)
    · intro a w hs hsz hb hd K' hK
      rw [if_pos (wanted_none (o := fo72) rfl)]
      have x : a.tmps.getD 117 undef = .bool true := hd ⟨71, .data⟩ (by simp [fo72]) rfl fo71 117 rfl rfl
      exact BigFrame.wp_move (.tmp 117) rfl (hK _ _ hs (Below.refl _ _) x)
    · intro a w hs hsz hb hd K' hK
      have hg : a.tmps.getD 118 undef = .bool true := hd ⟨72, .guard⟩ (by simp [fo73]) rfl fo72 118 rfl rfl
      rw [if_pos (wanted_some (ops := FO) (o := fo73) (g := 72) (d := 118) (b := true) rfl rfl hg)]
      exact op_load rfl ((hb 3 nd3).trans p3) (HK1 w hs).1 (HK1 w hs).2.1 (HK1 w hs).2.2 (hK _ _ hs (Below.refl _ _) rfl)
    · intro a w hs hsz hb hd K' hK
      have hg : a.tmps.getD 118 undef = .bool true := hd ⟨72, .guard⟩ (by simp [fo74]) rfl fo72 118 rfl rfl
      rw [if_pos (wanted_some (ops := FO) (o := fo74) (g := 72) (d := 118) (b := true) rfl rfl hg)]
      exact op_load rfl ((hb 8 nd8).trans p8) (HK5 w hs).1 (HK5 w hs).2.1 (HK5 w hs).2.2 (hK _ _ hs (Below.refl _ _) rfl)
    · intro a w hs hsz hb hd K' hK
      have hg : a.tmps.getD 118 undef = .bool true := hd ⟨72, .chain⟩ (by simp [fo75]) rfl fo72 118 rfl rfl
      rw [if_pos (wanted_some (ops := FO) (o := fo75) (g := 72) (d := 118) (b := true) rfl rfl hg)]
      have x0 : a.tmps.getD 119 undef = (.agg #[.bool b1, .slice A1 n1 c1, .slice B1 m1 e1]) := hd ⟨73, .data⟩ (by simp [fo75]) rfl fo73 119 rfl rfl
      have H0 : Num false 8 w (a.tmps.getD 119 undef) X1 := by rw [x0]; exact N1.below hs
      have x1 : a.tmps.getD 120 undef = (.agg #[.bool b5, .slice A5 n5 c5, .slice B5 m5 e5]) := hd ⟨74, .data⟩ (by simp [fo75]) rfl fo74 120 rfl rfl
      have H1 : Num true 3 w (a.tmps.getD 120 undef) ((1 : Int) : Rat) := by rw [x1]; exact N5.below hs
      refine op_call2 enters_mul rfl ?_
      refine (mul_n H0 H1 (Nat.le_of_ble_eq_true rfl) (Nat.le_of_ble_eq_true rfl)).mono ?_
      rintro e w1 ⟨z, rfl, hz1, hb1⟩
      exact ⟨z, rfl, hK _ _ (bl_call hs hb1) hb1 hz1⟩
    · intro a w hs hsz hb hd K' hK
      have hg : a.tmps.getD 118 undef = .bool true := hd ⟨72, .guard⟩ (by simp [fo76]) rfl fo72 118 rfl rfl
      rw [if_pos (wanted_some (ops := FO) (o := fo76) (g := 72) (d := 118) (b := true) rfl rfl hg)]
      exact op_load rfl ((hb 3 nd3).trans p3) (HK1 w hs).1 (HK1 w hs).2.1 (HK1 w hs).2.2 (hK _ _ hs (Below.refl _ _) rfl)
    · intro a w hs hsz hb hd K' hK
      have hg : a.tmps.getD 118 undef = .bool true := hd ⟨72, .guard⟩ (by simp [fo77]) rfl fo72 118 rfl rfl
      rw [if_pos (wanted_some (ops := FO) (o := fo77) (g := 72) (d := 118) (b := true) rfl rfl hg)]
      have x0 : a.tmps.getD 122 undef = (.agg #[.bool b1, .slice A1 n1 c1, .slice B1 m1 e1]) := hd ⟨76, .data⟩ (by simp [fo77]) rfl fo76 122 rfl rfl
      have H0 : Num false 8 w (a.tmps.getD 122 undef) X1 := by rw [x0]; exact N1.below hs
      refine op_call1 enters_canon rfl ?_
      refine (canon_n H0 (Nat.le_of_ble_eq_true rfl)).mono ?_
      rintro e w1 ⟨z, rfl, hz1, hb1⟩
      exact ⟨z, rfl, hK _ _ (bl_call hs hb1) hb1 hz1⟩
    · intro a w hs hsz hb hd K' hK
      have hg : a.tmps.getD 118 undef = .bool true := hd ⟨72, .guard⟩ (by simp [fo78]) rfl fo72 118 rfl rfl
      rw [if_pos (wanted_some (ops := FO) (o := fo78) (g := 72) (d := 118) (b := true) rfl rfl hg)]
      have H0 : Num true 13 w (a.tmps.getD 121 undef) (X1 * ((1 : Int) : Rat)) := hd ⟨75, .data⟩ (by simp [fo78]) rfl fo75 121 rfl rfl
      have H1 : Num true 9 w (a.tmps.getD 123 undef) X1 := hd ⟨77, .data⟩ (by simp [fo78]) rfl fo77 123 rfl rfl
      refine op_call2 enters_same rfl ?_
      refine (same_n H0 H1 EH).mono ?_
      rintro e w1 ⟨rfl, hb1⟩
      exact ⟨_, rfl, hK _ _ (bl_call hs hb1) hb1 rfl⟩
    · intro a w hs hsz hb hd K' hK
      rw [if_pos (wanted_none (o := fo79) rfl)]
      have xc : a.tmps.getD 118 undef = .bool true := hd ⟨72, .data⟩ (by simp [fo79]) rfl fo72 118 rfl rfl
      have x : a.tmps.getD 124 undef = .bool true := hd ⟨78, .data⟩ (by simp [fo79]) rfl fo78 124 rfl rfl
      exact op_pick rfl xc (hK _ _ hs (Below.refl _ _) x)
    · intro a w hs hsz hb hd K' hK
      rw [if_pos (wanted_none (o := fo80) rfl)]
      have x : a.tmps.getD 125 undef = .bool true := hd ⟨79, .data⟩ (by simp [fo80]) rfl fo79 125 rfl rfl
      exact BigFrame.wp_move (.tmp 125) rfl (hK _ _ hs (Below.refl _ _) x)
    · intro a w hs hsz hb hd K' hK
      have hg : a.tmps.getD 126 undef = .bool true := hd ⟨80, .chain⟩ (by simp [fo81]) rfl fo80 126 rfl rfl
      rw [if_pos (wanted_some (ops := FO) (o := fo81) (g := 80) (d := 126) (b := true) rfl rfl hg)]
      refine op_call0 enters_awake rfl ?_
      refine (awake_any _).mono ?_
      rintro e w1 ⟨rfl, hb1⟩
      exact ⟨_, rfl, hK _ _ (bl_call hs hb1) hb1 rfl⟩
    · intro a w hs hsz hb hd K' hK
      rw [if_pos (wanted_none (o := fo82) rfl)]
      have xc : a.tmps.getD 126 undef = .bool true := hd ⟨80, .data⟩ (by simp [fo82]) rfl fo80 126 rfl rfl
      have x : a.tmps.getD 127 undef = .bool true := hd ⟨81, .data⟩ (by simp [fo82]) rfl fo81 127 rfl rfl
      exact op_pick rfl xc (hK _ _ hs (Below.refl _ _) x)
    · intro a w hs hsz hb hd K' hK
      rw [if_pos (wanted_none (o := fo83) rfl)]
      have x : a.tmps.getD 128 undef = .bool true := hd ⟨82, .data⟩ (by simp [fo83]) rfl fo82 128 rfl rfl
      exact BigFrame.wp_assign (.tmp 128) rfl (hK _ _ hs (Below.refl _ _) x)
  · intro a' w' h
    exact hend a' w' h.s (h.val 83 fo83 6 rfl (by kernel_rfl) rfl) h.defers
end Go.Proofs.Ytikpdkgamcecjaa
