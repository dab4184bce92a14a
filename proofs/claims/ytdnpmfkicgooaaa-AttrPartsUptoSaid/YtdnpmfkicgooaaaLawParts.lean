/- The law AttrParts: whatever the input, if what it reads is of bulk at most 1048576, it returns true and changes nothing. Printed by a program of this project (wip/mq). -/
import Derived.Test.YtdnpmfkicgooaaaRows
import Derived.KernelRfl
import Derived.Test.YtdnpmfkicgooaaaMqLaw
namespace Go.Proofs.Ytdnpmfkicgooaaa
open Go Mq Go.ChangeShapes Go.WideShapes Go.ChangeAt Go.RowKit
def tl : List (Nat × TI) := [(3, ⟨1, 8, false, [.d (.v (.int .i64 0))], .int .i64, none⟩), (4, ⟨1, 1, false, [.d (.v (.bool false))], .bool, none⟩), (5, ⟨1, 1, false, [.d (.v (.int .u8 0))], .int .u8, none⟩), (23, ⟨4, 32, true, [.d (.v (.bool false)), .d (.v (.int .i64 0)), .d (.v (.int .i64 0)), .d (.v (.int .u8 0))], .st [(0, 4), (1, 3), (2, 3), (3, 5)], some [.b, .i, .i, .i]⟩), (27, ⟨1, 24, false, [.nl 4], .sl 23, none⟩)]
def te : TE := lget tl
theorem te3 : te 3 = some ⟨1, 8, false, [.d (.v (.int .i64 0))], .int .i64, none⟩ := rfl
theorem ti3 : TIok Try.prog 3 ⟨1, 8, false, [.d (.v (.int .i64 0))], .int .i64, none⟩ := mkTI ((Try.prog.info? 3).getD default) (by kernel_rfl) (by kernel_rfl) (by kernel_rfl) (.int .i64 0) (by kernel_rfl) ⟨fun _ => .d _ _ (.v _ rfl), rfl, trivial⟩ rfl rfl ((Try.prog.underlying 3).getD .invalid) (by kernel_rfl) (by kernel_rfl) (by kernel_rfl) (by kernel_rfl)
theorem te4 : te 4 = some ⟨1, 1, false, [.d (.v (.bool false))], .bool, none⟩ := rfl
theorem ti4 : TIok Try.prog 4 ⟨1, 1, false, [.d (.v (.bool false))], .bool, none⟩ := mkTI ((Try.prog.info? 4).getD default) (by kernel_rfl) (by kernel_rfl) (by kernel_rfl) (.bool false) (by kernel_rfl) ⟨fun _ => .d _ _ (.v _ rfl), rfl, trivial⟩ rfl rfl ((Try.prog.underlying 4).getD .invalid) (by kernel_rfl) (by kernel_rfl) (by kernel_rfl) (by kernel_rfl)
theorem te5 : te 5 = some ⟨1, 1, false, [.d (.v (.int .u8 0))], .int .u8, none⟩ := rfl
theorem ti5 : TIok Try.prog 5 ⟨1, 1, false, [.d (.v (.int .u8 0))], .int .u8, none⟩ := mkTI ((Try.prog.info? 5).getD default) (by kernel_rfl) (by kernel_rfl) (by kernel_rfl) (.int .u8 0) (by kernel_rfl) ⟨fun _ => .d _ _ (.v _ rfl), rfl, trivial⟩ rfl rfl ((Try.prog.underlying 5).getD .invalid) (by kernel_rfl) (by kernel_rfl) (by kernel_rfl) (by kernel_rfl)
theorem te23 : te 23 = some ⟨4, 32, true, [.d (.v (.bool false)), .d (.v (.int .i64 0)), .d (.v (.int .i64 0)), .d (.v (.int .u8 0))], .st [(0, 4), (1, 3), (2, 3), (3, 5)], some [.b, .i, .i, .i]⟩ := rfl
theorem ti23 : TIok Try.prog 23 ⟨4, 32, true, [.d (.v (.bool false)), .d (.v (.int .i64 0)), .d (.v (.int .i64 0)), .d (.v (.int .u8 0))], .st [(0, 4), (1, 3), (2, 3), (3, 5)], some [.b, .i, .i, .i]⟩ := mkTI ((Try.prog.info? 23).getD default) (by kernel_rfl) (by kernel_rfl) (by kernel_rfl) (.agg #[.bool false, .int .i64 0, .int .i64 0, .int .u8 0]) (by kernel_rfl) ⟨fun _ => .d _ _ (.v _ rfl), rfl, ⟨fun _ => .d _ _ (.v _ rfl), rfl, ⟨fun _ => .d _ _ (.v _ rfl), rfl, ⟨fun _ => .d _ _ (.v _ rfl), rfl, trivial⟩⟩⟩⟩ rfl rfl ((Try.prog.underlying 23).getD .invalid) (by kernel_rfl) (by kernel_rfl) (by kernel_rfl) (by kernel_rfl)
theorem te27 : te 27 = some ⟨1, 24, false, [.nl 4], .sl 23, none⟩ := rfl
theorem ti27 : TIok Try.prog 27 ⟨1, 24, false, [.nl 4], .sl 23, none⟩ := mkTI ((Try.prog.info? 27).getD default) (by kernel_rfl) (by kernel_rfl) (by kernel_rfl) (.slice none 0 0) (by kernel_rfl) ⟨fun _ => .nl _, rfl, trivial⟩ rfl rfl ((Try.prog.underlying 27).getD .invalid) (by kernel_rfl) (by kernel_rfl) (by kernel_rfl) (by kernel_rfl)
theorem teok : TEok Try.prog te := TEall.ok (l := tl) ⟨ti3, ti4, ti5, ti23, ti27, trivial⟩
/-! maquette/attr.Better -/
def f9r0 : List PG := [.u (.bx 2 (.t 0)), .u (.bx 3 (.t 1)), .u (.mv 4 (.k (.bool false)))]
def f9r1 : List PG := [.u (.fa 6 0 (.t 2)), .u (.ld 7 1 false (.t 6)), .u (.no 8 (.t 7)), .u (.mv 9 (.t 8)), .g 9 false (.fa 10 0 (.t 3)), .g 9 false (.ld 11 1 false (.t 10)), .g 9 false (.no 12 (.t 11)), .u (.pick 13 (.t 9) (.k (.bool true)) (.t 12)), .u (.mv 5 (.t 13))]
def f9r2 : List PG := [.u (.fa 14 0 (.t 2)), .u (.ld 15 1 false (.t 14)), .u (.mv 16 (.t 15)), .g 16 true (.fa 17 0 (.t 3)), .g 16 true (.ld 18 1 false (.t 17)), .g 16 true (.no 19 (.t 18)), .u (.pick 20 (.t 16) (.t 19) (.k (.bool false))), .u (.mv 4 (.t 20))]
abbrev f9p0 : PC := .seq (.reg f9r2) (.ret)
def f9r3 : List PG := [.u (.fa 22 1 (.t 2)), .u (.ld 23 1 false (.t 22)), .u (.fa 24 1 (.t 3)), .u (.ld 25 1 false (.t 24)), .u (.beq 26 true false (.t 23) (.t 25)), .u (.mv 21 (.t 26))]
def f9r4 : List PG := [.u (.fa 27 1 (.t 2)), .u (.ld 28 1 false (.t 27)), .u (.fa 29 1 (.t 3)), .u (.ld 30 1 false (.t 29)), .u (.bo 31 .gtr (.t 28) (.t 30)), .u (.mv 4 (.t 31))]
abbrev f9p1 : PC := .seq (.reg f9r4) (.ret)
def f9r5 : List PG := [.u (.fa 33 2 (.t 2)), .u (.ld 34 1 false (.t 33)), .u (.fa 35 2 (.t 3)), .u (.ld 36 1 false (.t 35)), .u (.beq 37 true false (.t 34) (.t 36)), .u (.mv 32 (.t 37))]
def f9r6 : List PG := [.u (.fa 38 2 (.t 2)), .u (.ld 39 1 false (.t 38)), .u (.fa 40 2 (.t 3)), .u (.ld 41 1 false (.t 40)), .u (.bo 42 .lss (.t 39) (.t 41)), .u (.mv 4 (.t 42))]
abbrev f9p2 : PC := .seq (.reg f9r6) (.ret)
abbrev f9p3 : PC := .cond (.t 32) (f9p2) (.skip)
abbrev f9p4 : PC := .seq (.reg f9r5) (f9p3)
abbrev f9p5 : PC := .cond (.t 21) (f9p1) (f9p4)
abbrev f9p6 : PC := .seq (.reg f9r3) (f9p5)
abbrev f9p7 : PC := .cond (.t 5) (f9p0) (f9p6)
def f9r7 : List PG := [.u (.fa 43 3 (.t 2)), .u (.ld 44 1 false (.t 43)), .u (.fa 45 3 (.t 3)), .u (.ld 46 1 false (.t 45)), .u (.bo 47 .lss (.t 44) (.t 46)), .u (.mv 4 (.t 47))]
abbrev f9p8 : PC := .seq (.reg f9r7) (.ret)
abbrev f9p9 : PC := .seq (.block 0 (.seq (.reg f9r1) (f9p7))) (f9p8)
abbrev f9pc : PC := .seq (.reg f9r0) (f9p9)
def f9k : List Nat := [0, 1, 2, 3, 4, 5, 21, 32]
theorem f9c : Try.f9.body.bind (cC te Try.f9.ntmps) = some f9pc := by kernel_rfl
/-! maquette/attr.Same -/
def f10r0 : List PG := [.u (.bx 2 (.t 0)), .u (.bx 3 (.t 1)), .u (.mv 4 (.k (.bool false)))]
def f10r1 : List PG := [.u (.fa 5 0 (.t 2)), .u (.ld 6 1 false (.t 5)), .u (.no 7 (.t 6)), .u (.mv 8 (.t 7)), .g 8 true (.fa 9 0 (.t 3)), .g 8 true (.ld 10 1 false (.t 9)), .g 8 true (.no 11 (.t 10)), .u (.pick 12 (.t 8) (.t 11) (.k (.bool false))), .u (.mv 13 (.t 12)), .g 13 false (.ld 14 4 true (.t 2)), .g 13 false (.ld 15 4 true (.t 3)), .g 13 false (.beqs 16 false [.b, .i, .i, .i] (.t 14) (.t 15)), .u (.pick 17 (.t 13) (.k (.bool true)) (.t 16)), .u (.mv 4 (.t 17))]
abbrev f10p0 : PC := .seq (.reg f10r1) (.ret)
abbrev f10pc : PC := .seq (.reg f10r0) (f10p0)
def f10k : List Nat := [0, 1, 2, 3, 4]
theorem f10c : Try.f10.body.bind (cC te Try.f10.ntmps) = some f10pc := by kernel_rfl
/-! maquette/attr.Origin -/
def f12r0 : List PG := [.u (.al 0 [.d (.v (.bool false)), .d (.v (.int .i64 0)), .d (.v (.int .i64 0)), .d (.v (.int .u8 0))])]
def f12r1 : List PG := [.u (.bld 1 [.d (.v (.bool false)), .d (.v (.int .i64 0)), .d (.v (.int .i64 0)), .d (.v (.int .u8 0))] [((0, 1), .k (.bool true)), ((1, 1), .k (.int .i64 100))]), .u (.st 4 (.t 0) (.t 1))]
abbrev f12p0 : PC := .seq (.reg f12r1) (.ret)
abbrev f12pc : PC := .seq (.reg f12r0) (f12p0)
def f12k : List Nat := [0]
theorem f12c : Try.f12.body.bind (cC te Try.f12.ntmps) = some f12pc := by kernel_rfl
/-! maquette/maquettelaw10.awake -/
def f8r0 : List PG := [.u (.mv 0 (.k (.bool false)))]
def f8r1 : List PG := [.u (.bld 1 [.d (.v (.bool false)), .d (.v (.int .i64 0)), .d (.v (.int .i64 0)), .d (.v (.int .u8 0))] [((0, 1), .k (.bool true)), ((1, 1), .k (.int .i64 200)), ((2, 1), .k (.int .i64 9))]), .u (.bld 2 [.d (.v (.bool false)), .d (.v (.int .i64 0)), .d (.v (.int .i64 0)), .d (.v (.int .u8 0))] [((0, 1), .k (.bool true)), ((1, 1), .k (.int .i64 100)), ((2, 1), .k (.int .i64 1))]), .uc 3 9 [.t 1, .t 2], .u (.mv 4 (.t 3)), .gc 4 true 5 12 [], .g 4 true (.bld 6 [.d (.v (.bool false)), .d (.v (.int .i64 0)), .d (.v (.int .i64 0)), .d (.v (.int .u8 0))] [((0, 1), .k (.bool true)), ((1, 1), .k (.int .i64 100))]), .g 4 true (.beqs 7 false [.b, .i, .i, .i] (.t 5) (.t 6)), .u (.pick 8 (.t 4) (.t 7) (.k (.bool false))), .u (.mv 0 (.t 8))]
abbrev f8p0 : PC := .seq (.reg f8r1) (.ret)
abbrev f8pc : PC := .seq (.reg f8r0) (f8p0)
def f8k : List Nat := [0]
theorem f8c : Try.f8.body.bind (cC te Try.f8.ntmps) = some f8pc := by kernel_rfl
/-! maquette/maquettelaw10.AttrBetter -/
def f3r0 : List PG := [.u (.bx 2 (.t 0)), .u (.bx 3 (.t 1)), .u (.mv 4 (.k (.bool false)))]
def f3r1 : List PG := [.uc 6 8 [], .u (.no 7 (.t 6))]
def f3r2 : List PG := [.u (.mv 4 (.k (.bool false)))]
abbrev f3p0 : PC := .seq (.reg f3r2) (.ret)
abbrev f3p1 : PC := .cond (.t 7) (f3p0) (.skip)
def f3r3 : List PG := [.u (.fa 8 0 (.t 2)), .u (.ld 9 1 false (.t 8)), .u (.mv 10 (.t 9)), .g 10 true (.fa 11 0 (.t 3)), .g 10 true (.ld 12 1 false (.t 11)), .g 10 true (.no 13 (.t 12)), .u (.pick 14 (.t 10) (.t 13) (.k (.bool false))), .u (.mv 5 (.t 14))]
def f3r4 : List PG := [.u (.fa 15 0 (.t 2)), .u (.ld 16 1 false (.t 15)), .u (.mv 17 (.t 16)), .g 17 true (.fa 18 0 (.t 3)), .g 17 true (.ld 19 1 false (.t 18)), .u (.pick 20 (.t 17) (.t 19) (.k (.bool false)))]
def f3r5 : List PG := [.u (.fa 21 1 (.t 2)), .u (.ld 22 1 false (.t 21)), .u (.fa 23 1 (.t 3)), .u (.ld 24 1 false (.t 23)), .u (.bo 25 .gtr (.t 22) (.t 24)), .u (.mv 26 (.t 25)), .g 26 false (.fa 27 1 (.t 2)), .g 26 false (.ld 28 1 false (.t 27)), .g 26 false (.fa 29 1 (.t 3)), .g 26 false (.ld 30 1 false (.t 29)), .g 26 false (.beq 31 false false (.t 28) (.t 30)), .g 26 false (.mv 32 (.t 31)), .g 32 true (.fa 33 2 (.t 2)), .g 32 true (.ld 34 1 false (.t 33)), .g 32 true (.fa 35 2 (.t 3)), .g 32 true (.ld 36 1 false (.t 35)), .g 32 true (.bo 37 .lss (.t 34) (.t 36)), .g 32 true (.mv 38 (.t 37)), .g 38 false (.fa 39 2 (.t 2)), .g 38 false (.ld 40 1 false (.t 39)), .g 38 false (.fa 41 2 (.t 3)), .g 38 false (.ld 42 1 false (.t 41)), .g 38 false (.beq 43 false false (.t 40) (.t 42)), .g 38 false (.mv 44 (.t 43)), .g 44 true (.fa 45 3 (.t 2)), .g 44 true (.ld 46 1 false (.t 45)), .g 44 true (.fa 47 3 (.t 3)), .g 44 true (.ld 48 1 false (.t 47)), .g 44 true (.bo 49 .lss (.t 46) (.t 48)), .g 38 false (.pick 50 (.t 44) (.t 49) (.k (.bool false))), .g 32 true (.pick 51 (.t 38) (.k (.bool true)) (.t 50)), .g 26 false (.pick 52 (.t 32) (.t 51) (.k (.bool false))), .u (.pick 53 (.t 26) (.k (.bool true)) (.t 52)), .u (.mv 5 (.t 53))]
abbrev f3p2 : PC := .cond (.t 20) (.reg f3r5) (.skip)
def f3r6 : List PG := [.u (.ld 54 4 true (.t 2)), .u (.ld 55 4 true (.t 3)), .uc 56 9 [.t 54, .t 55], .u (.mv 57 (.t 5)), .u (.beq 58 false true (.t 56) (.t 57)), .u (.mv 4 (.t 58))]
abbrev f3p3 : PC := .seq (.reg f3r6) (.ret)
abbrev f3p4 : PC := .seq (.seq (.reg f3r4) (f3p2)) (f3p3)
abbrev f3p5 : PC := .seq (.reg f3r3) (f3p4)
abbrev f3p6 : PC := .seq (.seq (.reg f3r1) (f3p1)) (f3p5)
abbrev f3pc : PC := .seq (.reg f3r0) (f3p6)
def f3k : List Nat := [0, 1, 2, 3, 4, 5, 7, 20]
theorem f3c : Try.f3.body.bind (cC te Try.f3.ntmps) = some f3pc := by kernel_rfl
/-! maquette/maquettelaw10.AttrOrder -/
def f4r0 : List PG := [.u (.bx 3 (.t 0)), .u (.bx 4 (.t 1)), .u (.bx 5 (.t 2)), .u (.mv 6 (.k (.bool false)))]
def f4r1 : List PG := [.uc 7 8 [], .u (.no 8 (.t 7))]
def f4r2 : List PG := [.u (.mv 6 (.k (.bool false)))]
abbrev f4p0 : PC := .seq (.reg f4r2) (.ret)
abbrev f4p1 : PC := .cond (.t 8) (f4p0) (.skip)
def f4r3 : List PG := [.u (.ld 9 4 true (.t 3)), .u (.ld 10 4 true (.t 4)), .uc 11 9 [.t 9, .t 10], .u (.mv 12 (.t 11)), .g 12 true (.ld 13 4 true (.t 4)), .g 12 true (.ld 14 4 true (.t 5)), .gc 12 true 15 9 [.t 13, .t 14], .u (.pick 16 (.t 12) (.t 15) (.k (.bool false))), .u (.mv 17 (.t 16)), .g 17 true (.ld 18 4 true (.t 3)), .g 17 true (.ld 19 4 true (.t 5)), .gc 17 true 20 9 [.t 18, .t 19], .g 17 true (.no 21 (.t 20)), .u (.pick 22 (.t 17) (.t 21) (.k (.bool false))), .u (.mv 23 (.t 22)), .g 23 false (.ld 24 4 true (.t 3)), .g 23 false (.ld 25 4 true (.t 4)), .gc 23 false 26 9 [.t 24, .t 25], .g 23 false (.mv 27 (.t 26)), .g 27 true (.ld 28 4 true (.t 4)), .g 27 true (.ld 29 4 true (.t 3)), .gc 27 true 30 9 [.t 28, .t 29], .g 23 false (.pick 31 (.t 27) (.t 30) (.k (.bool false))), .u (.pick 32 (.t 23) (.k (.bool true)) (.t 31))]
def f4r4 : List PG := [.u (.mv 6 (.k (.bool false)))]
abbrev f4p2 : PC := .seq (.reg f4r4) (.ret)
abbrev f4p3 : PC := .cond (.t 32) (f4p2) (.skip)
def f4r5 : List PG := [.u (.ld 33 4 true (.t 3)), .u (.ld 34 4 true (.t 4)), .uc 35 9 [.t 33, .t 34], .u (.mv 36 (.t 35)), .g 36 false (.ld 37 4 true (.t 4)), .g 36 false (.ld 38 4 true (.t 3)), .gc 36 false 39 9 [.t 37, .t 38], .u (.pick 40 (.t 36) (.k (.bool true)) (.t 39)), .u (.ld 41 4 true (.t 3)), .u (.ld 42 4 true (.t 4)), .uc 43 10 [.t 41, .t 42], .u (.beq 44 true true (.t 40) (.t 43)), .u (.mv 45 (.t 44)), .g 45 true (.ld 46 4 true (.t 3)), .g 45 true (.ld 47 4 true (.t 4)), .gc 45 true 48 10 [.t 46, .t 47], .g 45 true (.ld 49 4 true (.t 4)), .g 45 true (.ld 50 4 true (.t 3)), .gc 45 true 51 10 [.t 49, .t 50], .g 45 true (.beq 52 false true (.t 48) (.t 51)), .u (.pick 53 (.t 45) (.t 52) (.k (.bool false))), .u (.mv 54 (.t 53)), .g 54 true (.ld 55 4 true (.t 3)), .g 54 true (.ld 56 4 true (.t 3)), .gc 54 true 57 10 [.t 55, .t 56], .u (.pick 58 (.t 54) (.t 57) (.k (.bool false))), .u (.mv 6 (.t 58))]
abbrev f4p4 : PC := .seq (.regD f4r5 []) (.ret)
abbrev f4p5 : PC := .seq (.seq (.reg f4r3) (f4p3)) (f4p4)
abbrev f4p6 : PC := .seq (.seq (.reg f4r1) (f4p1)) (f4p5)
abbrev f4pc : PC := .seq (.reg f4r0) (f4p6)
def f4k : List Nat := [0, 1, 2, 3, 4, 5, 6, 8, 32]
theorem f4c : Try.f4.body.bind (cC te Try.f4.ntmps) = some f4pc := by kernel_rfl
/-! maquette/maquettelaw10.AttrSame -/
def f5r0 : List PG := [.u (.bx 2 (.t 0)), .u (.bx 3 (.t 1)), .u (.mv 4 (.k (.bool false)))]
def f5r1 : List PG := [.uc 6 8 [], .u (.no 7 (.t 6))]
def f5r2 : List PG := [.u (.mv 4 (.k (.bool false)))]
abbrev f5p0 : PC := .seq (.reg f5r2) (.ret)
abbrev f5p1 : PC := .cond (.t 7) (f5p0) (.skip)
def f5r3 : List PG := [.u (.fa 8 0 (.t 2)), .u (.ld 9 1 false (.t 8)), .u (.no 10 (.t 9)), .u (.mv 11 (.t 10)), .g 11 true (.fa 12 0 (.t 3)), .g 11 true (.ld 13 1 false (.t 12)), .g 11 true (.no 14 (.t 13)), .u (.pick 15 (.t 11) (.t 14) (.k (.bool false))), .u (.mv 16 (.t 15)), .g 16 false (.fa 17 0 (.t 2)), .g 16 false (.ld 18 1 false (.t 17)), .g 16 false (.mv 19 (.t 18)), .g 19 true (.fa 20 0 (.t 3)), .g 19 true (.ld 21 1 false (.t 20)), .g 16 false (.pick 22 (.t 19) (.t 21) (.k (.bool false))), .g 16 false (.mv 23 (.t 22)), .g 23 true (.fa 24 1 (.t 2)), .g 23 true (.ld 25 1 false (.t 24)), .g 23 true (.fa 26 1 (.t 3)), .g 23 true (.ld 27 1 false (.t 26)), .g 23 true (.beq 28 false false (.t 25) (.t 27)), .g 16 false (.pick 29 (.t 23) (.t 28) (.k (.bool false))), .g 16 false (.mv 30 (.t 29)), .g 30 true (.fa 31 2 (.t 2)), .g 30 true (.ld 32 1 false (.t 31)), .g 30 true (.fa 33 2 (.t 3)), .g 30 true (.ld 34 1 false (.t 33)), .g 30 true (.beq 35 false false (.t 32) (.t 34)), .g 16 false (.pick 36 (.t 30) (.t 35) (.k (.bool false))), .g 16 false (.mv 37 (.t 36)), .g 37 true (.fa 38 3 (.t 2)), .g 37 true (.ld 39 1 false (.t 38)), .g 37 true (.fa 40 3 (.t 3)), .g 37 true (.ld 41 1 false (.t 40)), .g 37 true (.beq 42 false false (.t 39) (.t 41)), .g 16 false (.pick 43 (.t 37) (.t 42) (.k (.bool false))), .u (.pick 44 (.t 16) (.k (.bool true)) (.t 43)), .u (.mv 5 (.t 44))]
def f5r4 : List PG := [.u (.ld 45 4 true (.t 2)), .u (.ld 46 4 true (.t 3)), .uc 47 10 [.t 45, .t 46], .u (.mv 48 (.t 5)), .u (.beq 49 false true (.t 47) (.t 48)), .u (.mv 4 (.t 49))]
abbrev f5p2 : PC := .seq (.reg f5r4) (.ret)
abbrev f5p3 : PC := .seq (.reg f5r3) (f5p2)
abbrev f5p4 : PC := .seq (.seq (.reg f5r1) (f5p1)) (f5p3)
abbrev f5pc : PC := .seq (.reg f5r0) (f5p4)
def f5k : List Nat := [0, 1, 2, 3, 4, 5, 7]
theorem f5c : Try.f5.body.bind (cC te Try.f5.ntmps) = some f5pc := by kernel_rfl
/-! maquette/attr.Best -/
def f11r0 : List PG := [.u (.al 2 [.d (.v (.bool false)), .d (.v (.int .i64 0)), .d (.v (.int .i64 0)), .d (.v (.int .u8 0))])]
def f11r1 : List PG := [.u (.al 3 [.d (.v (.bool false)), .d (.v (.int .i64 0)), .d (.v (.int .i64 0)), .d (.v (.int .u8 0))])]
def f11r2 : List PG := [.u (.mv 6 (.t 0)), .u (.len 7 (.t 6)), .u (.mv 8 (.k (.int .i64 0)))]
def f11r3 : List PG := [.u (.bo 9 .lss (.t 8) (.t 7))]
def f11r4 : List PG := [.u (.ia 10 4 (.t 6) (.t 8)), .u (.ld 11 4 true (.t 10)), .u (.al 5 [.d (.v (.bool false)), .d (.v (.int .i64 0)), .d (.v (.int .i64 0)), .d (.v (.int .u8 0))]), .u (.st 4 (.t 5) (.t 11))]
def f11r5 : List PG := [.u (.ld 12 4 true (.t 5)), .u (.ld 13 4 true (.t 3)), .uc 14 9 [.t 12, .t 13]]
def f11r6 : List PG := [.u (.ld 15 4 true (.t 5)), .u (.st 4 (.t 3) (.t 15))]
abbrev f11p0 : PC := .cond (.t 14) (.reg f11r6) (.skip)
abbrev f11p1 : PC := .seq (.reg f11r5) (f11p0)
def f11r7 : List PG := [.u (.bo 16 .add (.t 8) (.k (.int .i64 1))), .u (.mv 8 (.t 16))]
abbrev f11p2 : PC := .seq (.block 1 (.seq (.reg f11r4) (f11p1))) (.reg f11r7)
abbrev f11p3 : PC := .seq (.cond (.t 9) (.skip) (.exit 0)) (f11p2)
abbrev f11p4 : PC := .seq (.reg f11r3) (f11p3)
abbrev f11p5 : PC := .block 0 (.loop (f11p4))
def f11r8 : List PG := [.u (.ld 17 4 true (.t 3)), .u (.st 4 (.t 2) (.t 17))]
abbrev f11p6 : PC := .seq (.reg f11r8) (.ret)
abbrev f11p7 : PC := .seq (.seq (.reg f11r2) (f11p5)) (f11p6)
abbrev f11p8 : PC := .seq (.reg f11r1) (f11p7)
abbrev f11pc : PC := .seq (.reg f11r0) (f11p8)
def f11k : List Nat := [0, 2, 3, 5, 6, 7, 8, 9, 14]
theorem f11c : Try.f11.body.bind (cC te Try.f11.ntmps) = some f11pc := by kernel_rfl
/-! maquette/maquettelaw10.AttrParts -/
def f7r0 : List PG := [.u (.mv 4 (.k (.bool false)))]
def f7r1 : List PG := [.uc 5 8 [], .u (.no 6 (.t 5))]
def f7r2 : List PG := [.u (.mv 4 (.k (.bool false)))]
abbrev f7p0 : PC := .seq (.reg f7r2) (.ret)
abbrev f7p1 : PC := .cond (.t 6) (f7p0) (.skip)
def f7r3 : List PG := [.u (.mv 7 (.t 0)), .u (.app 8 23 4 32 (.nl 4) (.t 7)), .u (.mv 9 (.t 1)), .u (.app 10 23 4 32 (.t 8) (.t 9)), .uc 11 11 [.t 10], .u (.mv 12 (.t 0)), .uc 13 11 [.t 12], .u (.mv 14 (.t 1)), .uc 15 11 [.t 14], .u (.bsl 16 23 4 [.t 13, .t 15]), .uc 17 11 [.t 16], .uc 18 10 [.t 11, .t 17], .u (.mv 4 (.t 18))]
abbrev f7p2 : PC := .seq (.reg f7r3) (.ret)
abbrev f7p3 : PC := .seq (.seq (.reg f7r1) (f7p1)) (f7p2)
abbrev f7pc : PC := .seq (.reg f7r0) (f7p3)
def f7k : List Nat := [0, 1, 4, 6]
theorem f7c : Try.f7.body.bind (cC te Try.f7.ntmps) = some f7pc := by kernel_rfl
structure Attr where
  ok : Bool
  pref : Int
  cost : Int
  tags : Int
def better (a b : Attr) : Bool := if !a.ok || !b.ok then a.ok && !b.ok else if a.pref ≠ b.pref then decide (b.pref < a.pref) else if a.cost ≠ b.cost then decide (a.cost < b.cost) else decide (a.tags < b.tags)
def same (a b : Attr) : Bool := (!a.ok && !b.ok) || (a.ok == b.ok && (a.pref == b.pref && (a.cost == b.cost && a.tags == b.tags)))
set_option maxRecDepth 20000
set_option maxHeartbeats 4000000
set_option linter.unusedSimpArgs false
abbrev atA (o : Bool) (p c t : Int) : AV := .ag [.d (.v (.bool o)), .d (.v (.int .i64 p)), .d (.v (.int .i64 c)), .d (.v (.int .u8 t))]
theorem better_fn (o : Bool) (p c t : Int) (o' : Bool) (p' c' t' : Int) : FnS Try.prog 9 [atA o p c t, atA o' p' c' t'] (.d (.v (.bool (better ⟨o, p, c, t⟩ ⟨o', p', c', t'⟩)))) := by
  refine fn_of teok Try.func9 (by kernel_rfl) f9c f9k [.tmp 4] rfl (by show 2 ≤ 48; omega) ?_
  repeat' first
  | with_reducible refine awp_seq ?_
  | with_reducible refine awp_block ?_
  | with_reducible refine awp_reg ?_
  | with_reducible refine awp_regD ?_
  | with_reducible refine awp_ret ?_
  | with_reducible refine awp_skip ?_
  | with_reducible refine awp_exit ?_
  | with_reducible refine normQ_of ?_
  | with_reducible refine runD_nil ?_
  | with_reducible refine runD_cons ?_
  | with_reducible refine runF_cons ?_
  | with_reducible refine runF_nil ?_
  | with_reducible refine KF_of ?_
  | with_reducible refine chkQ_of rfl ?_
  | with_reducible refine awp_cond (by simp only [evX, lget, Option.getD_some, reduceIte, Nat.reduceEqDiff]; rfl) (fun hc => ?_) (fun hc => ?_)
  | (with_reducible assumption)
  | with_reducible refine fun (hG : okL _) => ?_
  | (with_reducible refine fun (hT : (_ : Bool) = _) => ?_)
  | (with_reducible first | exact hG.2 | exact hG.2.2 | exact hG.2.2.2 | exact hG.2.2.2.2)
  | with_reducible refine okL_mk ?_ ?_
  | with_reducible refine And.intro ?_ ?_
  | simp only [f9r0, f9r1, f9r2, f9r3, f9r4, f9r5, f9r6, f9r7, f9k, atA, runG_nil, runG_u, runG_g, runG_ucS, runG_gcS, stp, evs, evX, lget, lput, strip, putO, PO.dst, updO, okR, cells, splice, AV.cell, toD, toDs, binV, sameK, pickV, guardOf, okL_nil, sides, argsOf, rawOf, dv, dvL, owns, ownsL, flat, flatL, lkeep, seqQ, blockQ, initS, List.drop_succ_cons, List.drop_zero, List.take_succ_cons, List.take_zero, List.getD_cons_zero, List.getD_cons_succ, List.length_cons, List.length_nil, List.set_cons_zero, List.set_cons_succ, List.map_cons, List.map_nil, List.all_cons, List.all_nil, List.elem_cons, List.elem_nil, Option.getD_some, Option.getD_none, Option.bind_some, Option.isNone_none, reduceIte, reduceCtorEq, Nat.reduceEqDiff, Nat.reduceAdd, Nat.reduceLeDiff, Nat.zero_add, Nat.add_zero, Nat.reduceBEq, Bool.and_self, Bool.and_true, Bool.true_and, Bool.or_self, Bool.or_false, Bool.false_or, Bool.or_true, Bool.true_or, true_and, and_true, and_self, implies_true, forall_const, Bool.false_eq_true, id_eq, retQ, resOf, resV, Option.some.injEq, exists_eq_left', AV.d.injEq, D.v.injEq, Value.bool.injEq, imp_self, bldF, bldS, toVals, eqLs, Option.map_some, imp_false, not_true_eq_false, not_false_eq_true, foot, wrs, nm, nmL, PG.reads, PG.dst, PO.reads, X.sl, sls, slB, List.append_nil, List.cons_append, List.nil_append, Option.toList_some, Option.toList_none, loopQ_exit, loopQ_ret, subS, subO, Bool.bne_false, Bool.bne_true, elemsOf, bslD, bslS]
  all_goals simp_all [better]
theorem same_fn (o : Bool) (p c t : Int) (o' : Bool) (p' c' t' : Int) : FnS Try.prog 10 [atA o p c t, atA o' p' c' t'] (.d (.v (.bool (same ⟨o, p, c, t⟩ ⟨o', p', c', t'⟩)))) := by
  refine fn_of teok Try.func10 (by kernel_rfl) f10c f10k [.tmp 4] rfl (by show 2 ≤ 18; omega) ?_
  repeat' first
  | with_reducible refine awp_seq ?_
  | with_reducible refine awp_block ?_
  | with_reducible refine awp_reg ?_
  | with_reducible refine awp_regD ?_
  | with_reducible refine awp_ret ?_
  | with_reducible refine awp_skip ?_
  | with_reducible refine awp_exit ?_
  | with_reducible refine normQ_of ?_
  | with_reducible refine runD_nil ?_
  | with_reducible refine runD_cons ?_
  | with_reducible refine runF_cons ?_
  | with_reducible refine runF_nil ?_
  | with_reducible refine KF_of ?_
  | with_reducible refine chkQ_of rfl ?_
  | with_reducible refine awp_cond (by simp only [evX, lget, Option.getD_some, reduceIte, Nat.reduceEqDiff]; rfl) (fun hc => ?_) (fun hc => ?_)
  | (with_reducible assumption)
  | with_reducible refine fun (hG : okL _) => ?_
  | (with_reducible refine fun (hT : (_ : Bool) = _) => ?_)
  | (with_reducible first | exact hG.2 | exact hG.2.2 | exact hG.2.2.2 | exact hG.2.2.2.2)
  | with_reducible refine okL_mk ?_ ?_
  | with_reducible refine And.intro ?_ ?_
  | simp only [f10r0, f10r1, f10k, atA, runG_nil, runG_u, runG_g, runG_ucS, runG_gcS, stp, evs, evX, lget, lput, strip, putO, PO.dst, updO, okR, cells, splice, AV.cell, toD, toDs, binV, sameK, pickV, guardOf, okL_nil, sides, argsOf, rawOf, dv, dvL, owns, ownsL, flat, flatL, lkeep, seqQ, blockQ, initS, List.drop_succ_cons, List.drop_zero, List.take_succ_cons, List.take_zero, List.getD_cons_zero, List.getD_cons_succ, List.length_cons, List.length_nil, List.set_cons_zero, List.set_cons_succ, List.map_cons, List.map_nil, List.all_cons, List.all_nil, List.elem_cons, List.elem_nil, Option.getD_some, Option.getD_none, Option.bind_some, Option.isNone_none, reduceIte, reduceCtorEq, Nat.reduceEqDiff, Nat.reduceAdd, Nat.reduceLeDiff, Nat.zero_add, Nat.add_zero, Nat.reduceBEq, Bool.and_self, Bool.and_true, Bool.true_and, Bool.or_self, Bool.or_false, Bool.false_or, Bool.or_true, Bool.true_or, true_and, and_true, and_self, implies_true, forall_const, Bool.false_eq_true, id_eq, retQ, resOf, resV, Option.some.injEq, exists_eq_left', AV.d.injEq, D.v.injEq, Value.bool.injEq, imp_self, bldF, bldS, toVals, eqLs, Option.map_some, imp_false, not_true_eq_false, not_false_eq_true, foot, wrs, nm, nmL, PG.reads, PG.dst, PO.reads, X.sl, sls, slB, List.append_nil, List.cons_append, List.nil_append, Option.toList_some, Option.toList_none, loopQ_exit, loopQ_ret, subS, subO, Bool.bne_false, Bool.bne_true, elemsOf, bslD, bslS]
  all_goals (cases o <;> cases o' <;> simp [same])
theorem origin_fn : FnS Try.prog 12 [] (atA true 100 0 0) := by
  refine fn_of teok Try.func12 (by kernel_rfl) f12c f12k [.cell 0 23] rfl (by show 0 ≤ 2; omega) ?_
  repeat' first
  | with_reducible refine awp_seq ?_
  | with_reducible refine awp_block ?_
  | with_reducible refine awp_reg ?_
  | with_reducible refine awp_regD ?_
  | with_reducible refine awp_ret ?_
  | with_reducible refine awp_skip ?_
  | with_reducible refine awp_exit ?_
  | with_reducible refine normQ_of ?_
  | with_reducible refine runD_nil ?_
  | with_reducible refine runD_cons ?_
  | with_reducible refine runF_cons ?_
  | with_reducible refine runF_nil ?_
  | with_reducible refine KF_of ?_
  | with_reducible refine chkQ_of rfl ?_
  | with_reducible refine awp_cond (by simp only [evX, lget, Option.getD_some, reduceIte, Nat.reduceEqDiff]; rfl) (fun hc => ?_) (fun hc => ?_)
  | (with_reducible assumption)
  | with_reducible refine fun (hG : okL _) => ?_
  | (with_reducible refine fun (hT : (_ : Bool) = _) => ?_)
  | (with_reducible first | exact hG.2 | exact hG.2.2 | exact hG.2.2.2 | exact hG.2.2.2.2)
  | with_reducible refine okL_mk ?_ ?_
  | with_reducible refine And.intro ?_ ?_
  | simp only [f12r0, f12r1, f12k, te23, runG_nil, runG_u, runG_g, runG_ucS, runG_gcS, stp, evs, evX, lget, lput, strip, putO, PO.dst, updO, okR, cells, splice, AV.cell, toD, toDs, binV, sameK, pickV, guardOf, okL_nil, sides, argsOf, rawOf, dv, dvL, owns, ownsL, flat, flatL, lkeep, seqQ, blockQ, initS, List.drop_succ_cons, List.drop_zero, List.take_succ_cons, List.take_zero, List.getD_cons_zero, List.getD_cons_succ, List.length_cons, List.length_nil, List.set_cons_zero, List.set_cons_succ, List.map_cons, List.map_nil, List.all_cons, List.all_nil, List.elem_cons, List.elem_nil, Option.getD_some, Option.getD_none, Option.bind_some, Option.isNone_none, reduceIte, reduceCtorEq, Nat.reduceEqDiff, Nat.reduceAdd, Nat.reduceLeDiff, Nat.zero_add, Nat.add_zero, Nat.reduceBEq, Bool.and_self, Bool.and_true, Bool.true_and, Bool.or_self, Bool.or_false, Bool.false_or, Bool.or_true, Bool.true_or, true_and, and_true, and_self, implies_true, forall_const, Bool.false_eq_true, id_eq, retQ, resOf, resV, Option.some.injEq, exists_eq_left', AV.d.injEq, D.v.injEq, Value.bool.injEq, imp_self, bldF, bldS, toVals, eqLs, Option.map_some, imp_false, not_true_eq_false, not_false_eq_true, foot, wrs, nm, nmL, PG.reads, PG.dst, PO.reads, X.sl, sls, slB, List.append_nil, List.cons_append, List.nil_append, Option.toList_some, Option.toList_none, loopQ_exit, loopQ_ret, subS, subO, Bool.bne_false, Bool.bne_true, elemsOf, bslD, bslS]
theorem awake_fn : FnS Try.prog 8 [] (.d (.v (.bool true))) := by
  refine fn_of teok Try.func8 (by kernel_rfl) f8c f8k [.tmp 0] rfl (by show 0 ≤ 9; omega) ?_
  repeat' first
  | with_reducible refine awp_seq ?_
  | with_reducible refine awp_block ?_
  | with_reducible refine awp_reg ?_
  | with_reducible refine awp_regD ?_
  | with_reducible refine awp_ret ?_
  | with_reducible refine awp_skip ?_
  | with_reducible refine awp_exit ?_
  | with_reducible refine normQ_of ?_
  | with_reducible refine runD_nil ?_
  | with_reducible refine runD_cons ?_
  | with_reducible refine runF_cons ?_
  | with_reducible refine runF_nil ?_
  | with_reducible refine KF_of ?_
  | with_reducible refine chkQ_of rfl ?_
  | with_reducible refine awp_cond (by simp only [evX, lget, Option.getD_some, reduceIte, Nat.reduceEqDiff]; rfl) (fun hc => ?_) (fun hc => ?_)
  | with_reducible refine CallU_of (f := 9) (better_fn _ _ _ _ _ _ _ _) (by first | exact Or.inr rfl | exact Or.inl rfl) ?_
  | with_reducible refine CallC_of (f := 9) (fun _ => better_fn _ _ _ _ _ _ _ _) (by first | exact Or.inr rfl | exact Or.inl rfl) ?_
  | with_reducible refine CallU_of (f := 12) (origin_fn) (by first | exact Or.inr rfl | exact Or.inl rfl) ?_
  | with_reducible refine CallC_of (f := 12) (fun _ => origin_fn) (by first | exact Or.inr rfl | exact Or.inl rfl) ?_
  | (with_reducible assumption)
  | with_reducible refine fun (hG : okL _) => ?_
  | (with_reducible refine fun (hT : (_ : Bool) = _) => ?_)
  | (with_reducible first | exact hG.2 | exact hG.2.2 | exact hG.2.2.2 | exact hG.2.2.2.2)
  | with_reducible refine okL_mk ?_ ?_
  | with_reducible refine And.intro ?_ ?_
  | simp only [f8r0, f8r1, f8k, atA, runG_nil, runG_u, runG_g, runG_ucS, runG_gcS, stp, evs, evX, lget, lput, strip, putO, PO.dst, updO, okR, cells, splice, AV.cell, toD, toDs, binV, sameK, pickV, guardOf, okL_nil, sides, argsOf, rawOf, dv, dvL, owns, ownsL, flat, flatL, lkeep, seqQ, blockQ, initS, List.drop_succ_cons, List.drop_zero, List.take_succ_cons, List.take_zero, List.getD_cons_zero, List.getD_cons_succ, List.length_cons, List.length_nil, List.set_cons_zero, List.set_cons_succ, List.map_cons, List.map_nil, List.all_cons, List.all_nil, List.elem_cons, List.elem_nil, Option.getD_some, Option.getD_none, Option.bind_some, Option.isNone_none, reduceIte, reduceCtorEq, Nat.reduceEqDiff, Nat.reduceAdd, Nat.reduceLeDiff, Nat.zero_add, Nat.add_zero, Nat.reduceBEq, Bool.and_self, Bool.and_true, Bool.true_and, Bool.or_self, Bool.or_false, Bool.false_or, Bool.or_true, Bool.true_or, true_and, and_true, and_self, implies_true, forall_const, Bool.false_eq_true, id_eq, retQ, resOf, resV, Option.some.injEq, exists_eq_left', AV.d.injEq, D.v.injEq, Value.bool.injEq, imp_self, bldF, bldS, toVals, eqLs, Option.map_some, imp_false, not_true_eq_false, not_false_eq_true, foot, wrs, nm, nmL, PG.reads, PG.dst, PO.reads, X.sl, sls, slB, List.append_nil, List.cons_append, List.nil_append, Option.toList_some, Option.toList_none, loopQ_exit, loopQ_ret, subS, subO, Bool.bne_false, Bool.bne_true, elemsOf, bslD, bslS]
  all_goals rfl
theorem attr_of {n : Nat} {x : List D} (h : dT te (n + 2) 23 x) : ∃ (o : Bool) (p c t : Int), x = [.v (.bool o), .v (.int .i64 p), .v (.int .i64 c), .v (.int .u8 t)] := by
  simp only [dT, te23, dFs, te3, te4, te5] at h
  grind
theorem attrBetter_fn (o : Bool) (p c t : Int) (o' : Bool) (p' c' t' : Int) : FnS Try.prog 3 [atA o p c t, atA o' p' c' t'] (.d (.v (.bool true))) := by
  refine fn_of teok Try.func3 (by kernel_rfl) f3c f3k [.tmp 4] rfl (by show 2 ≤ 59; omega) ?_
  repeat' first
  | with_reducible refine awp_seq ?_
  | with_reducible refine awp_block ?_
  | with_reducible refine awp_reg ?_
  | with_reducible refine awp_regD ?_
  | with_reducible refine awp_ret ?_
  | with_reducible refine awp_skip ?_
  | with_reducible refine awp_exit ?_
  | with_reducible refine normQ_of ?_
  | with_reducible refine runD_nil ?_
  | with_reducible refine runD_cons ?_
  | with_reducible refine runF_cons ?_
  | with_reducible refine runF_nil ?_
  | with_reducible refine KF_of ?_
  | with_reducible refine chkQ_of rfl ?_
  | with_reducible refine awp_cond (by simp only [evX, lget, Option.getD_some, reduceIte, Nat.reduceEqDiff]; rfl) (fun hc => ?_) (fun hc => ?_)
  | with_reducible refine CallU_of (f := 8) (awake_fn) (by first | exact Or.inr rfl | exact Or.inl rfl) ?_
  | with_reducible refine CallC_of (f := 8) (fun _ => awake_fn) (by first | exact Or.inr rfl | exact Or.inl rfl) ?_
  | with_reducible refine CallU_of (f := 9) (better_fn _ _ _ _ _ _ _ _) (by first | exact Or.inr rfl | exact Or.inl rfl) ?_
  | with_reducible refine CallC_of (f := 9) (fun _ => better_fn _ _ _ _ _ _ _ _) (by first | exact Or.inr rfl | exact Or.inl rfl) ?_
  | (with_reducible assumption)
  | with_reducible refine fun (hG : okL _) => ?_
  | (with_reducible refine fun (hT : (_ : Bool) = _) => ?_)
  | (with_reducible first | exact hG.2 | exact hG.2.2 | exact hG.2.2.2 | exact hG.2.2.2.2)
  | with_reducible refine okL_mk ?_ ?_
  | with_reducible refine And.intro ?_ ?_
  | simp only [f3r0, f3r1, f3r2, f3r3, f3r4, f3r5, f3r6, f3k, atA, runG_nil, runG_u, runG_g, runG_ucS, runG_gcS, stp, evs, evX, lget, lput, strip, putO, PO.dst, updO, okR, cells, splice, AV.cell, toD, toDs, binV, sameK, pickV, guardOf, okL_nil, sides, argsOf, rawOf, dv, dvL, owns, ownsL, flat, flatL, lkeep, seqQ, blockQ, initS, List.drop_succ_cons, List.drop_zero, List.take_succ_cons, List.take_zero, List.getD_cons_zero, List.getD_cons_succ, List.length_cons, List.length_nil, List.set_cons_zero, List.set_cons_succ, List.map_cons, List.map_nil, List.all_cons, List.all_nil, List.elem_cons, List.elem_nil, Option.getD_some, Option.getD_none, Option.bind_some, Option.isNone_none, reduceIte, reduceCtorEq, Nat.reduceEqDiff, Nat.reduceAdd, Nat.reduceLeDiff, Nat.zero_add, Nat.add_zero, Nat.reduceBEq, Bool.and_self, Bool.and_true, Bool.true_and, Bool.or_self, Bool.or_false, Bool.false_or, Bool.or_true, Bool.true_or, true_and, and_true, and_self, implies_true, forall_const, Bool.false_eq_true, id_eq, retQ, resOf, resV, Option.some.injEq, exists_eq_left', AV.d.injEq, D.v.injEq, Value.bool.injEq, imp_self, bldF, bldS, toVals, eqLs, Option.map_some, imp_false, not_true_eq_false, not_false_eq_true, foot, wrs, nm, nmL, PG.reads, PG.dst, PO.reads, X.sl, sls, slB, List.append_nil, List.cons_append, List.nil_append, Option.toList_some, Option.toList_none, loopQ_exit, loopQ_ret, subS, subO, Bool.bne_false, Bool.bne_true, elemsOf, bslD, bslS]
  all_goals grind [better]
theorem attrSame_fn (o : Bool) (p c t : Int) (o' : Bool) (p' c' t' : Int) : FnS Try.prog 5 [atA o p c t, atA o' p' c' t'] (.d (.v (.bool true))) := by
  refine fn_of teok Try.func5 (by kernel_rfl) f5c f5k [.tmp 4] rfl (by show 2 ≤ 50; omega) ?_
  repeat' first
  | with_reducible refine awp_seq ?_
  | with_reducible refine awp_block ?_
  | with_reducible refine awp_reg ?_
  | with_reducible refine awp_regD ?_
  | with_reducible refine awp_ret ?_
  | with_reducible refine awp_skip ?_
  | with_reducible refine awp_exit ?_
  | with_reducible refine normQ_of ?_
  | with_reducible refine runD_nil ?_
  | with_reducible refine runD_cons ?_
  | with_reducible refine runF_cons ?_
  | with_reducible refine runF_nil ?_
  | with_reducible refine KF_of ?_
  | with_reducible refine chkQ_of rfl ?_
  | with_reducible refine awp_cond (by simp only [evX, lget, Option.getD_some, reduceIte, Nat.reduceEqDiff]; rfl) (fun hc => ?_) (fun hc => ?_)
  | with_reducible refine CallU_of (f := 8) (awake_fn) (by first | exact Or.inr rfl | exact Or.inl rfl) ?_
  | with_reducible refine CallC_of (f := 8) (fun _ => awake_fn) (by first | exact Or.inr rfl | exact Or.inl rfl) ?_
  | with_reducible refine CallU_of (f := 10) (same_fn _ _ _ _ _ _ _ _) (by first | exact Or.inr rfl | exact Or.inl rfl) ?_
  | with_reducible refine CallC_of (f := 10) (fun _ => same_fn _ _ _ _ _ _ _ _) (by first | exact Or.inr rfl | exact Or.inl rfl) ?_
  | (with_reducible assumption)
  | with_reducible refine fun (hG : okL _) => ?_
  | (with_reducible refine fun (hT : (_ : Bool) = _) => ?_)
  | (with_reducible first | exact hG.2 | exact hG.2.2 | exact hG.2.2.2 | exact hG.2.2.2.2)
  | with_reducible refine okL_mk ?_ ?_
  | with_reducible refine And.intro ?_ ?_
  | simp only [f5r0, f5r1, f5r2, f5r3, f5r4, f5k, atA, runG_nil, runG_u, runG_g, runG_ucS, runG_gcS, stp, evs, evX, lget, lput, strip, putO, PO.dst, updO, okR, cells, splice, AV.cell, toD, toDs, binV, sameK, pickV, guardOf, okL_nil, sides, argsOf, rawOf, dv, dvL, owns, ownsL, flat, flatL, lkeep, seqQ, blockQ, initS, List.drop_succ_cons, List.drop_zero, List.take_succ_cons, List.take_zero, List.getD_cons_zero, List.getD_cons_succ, List.length_cons, List.length_nil, List.set_cons_zero, List.set_cons_succ, List.map_cons, List.map_nil, List.all_cons, List.all_nil, List.elem_cons, List.elem_nil, Option.getD_some, Option.getD_none, Option.bind_some, Option.isNone_none, reduceIte, reduceCtorEq, Nat.reduceEqDiff, Nat.reduceAdd, Nat.reduceLeDiff, Nat.zero_add, Nat.add_zero, Nat.reduceBEq, Bool.and_self, Bool.and_true, Bool.true_and, Bool.or_self, Bool.or_false, Bool.false_or, Bool.or_true, Bool.true_or, true_and, and_true, and_self, implies_true, forall_const, Bool.false_eq_true, id_eq, retQ, resOf, resV, Option.some.injEq, exists_eq_left', AV.d.injEq, D.v.injEq, Value.bool.injEq, imp_self, bldF, bldS, toVals, eqLs, Option.map_some, imp_false, not_true_eq_false, not_false_eq_true, foot, wrs, nm, nmL, PG.reads, PG.dst, PO.reads, X.sl, sls, slB, List.append_nil, List.cons_append, List.nil_append, Option.toList_some, Option.toList_none, loopQ_exit, loopQ_ret, subS, subO, Bool.bne_false, Bool.bne_true, elemsOf, bslD, bslS]
  all_goals grind [same]
theorem attrOrder_fn (o : Bool) (p c t : Int) (o' : Bool) (p' c' t' : Int) (q : Bool) (p2 c2 t2 : Int) : FnS Try.prog 4 [atA o p c t, atA o' p' c' t', atA q p2 c2 t2] (.d (.v (.bool true))) := by
  refine fn_of teok Try.func4 (by kernel_rfl) f4c f4k [.tmp 6] rfl (by show 3 ≤ 59; omega) ?_
  repeat' first
  | with_reducible refine awp_seq ?_
  | with_reducible refine awp_block ?_
  | with_reducible refine awp_reg ?_
  | with_reducible refine awp_regD ?_
  | with_reducible refine awp_ret ?_
  | with_reducible refine awp_skip ?_
  | with_reducible refine awp_exit ?_
  | with_reducible refine normQ_of ?_
  | with_reducible refine runD_nil ?_
  | with_reducible refine runD_cons ?_
  | with_reducible refine runF_cons ?_
  | with_reducible refine runF_nil ?_
  | with_reducible refine KF_of ?_
  | with_reducible refine chkQ_of rfl ?_
  | with_reducible refine awp_cond (by simp only [evX, lget, Option.getD_some, reduceIte, Nat.reduceEqDiff]; rfl) (fun hc => ?_) (fun hc => ?_)
  | with_reducible refine CallU_of (f := 8) (awake_fn) (by first | exact Or.inr rfl | exact Or.inl rfl) ?_
  | with_reducible refine CallC_of (f := 8) (fun _ => awake_fn) (by first | exact Or.inr rfl | exact Or.inl rfl) ?_
  | with_reducible refine CallU_of (f := 9) (better_fn _ _ _ _ _ _ _ _) (by first | exact Or.inr rfl | exact Or.inl rfl) ?_
  | with_reducible refine CallC_of (f := 9) (fun _ => better_fn _ _ _ _ _ _ _ _) (by first | exact Or.inr rfl | exact Or.inl rfl) ?_
  | with_reducible refine CallU_of (f := 10) (same_fn _ _ _ _ _ _ _ _) (by first | exact Or.inr rfl | exact Or.inl rfl) ?_
  | with_reducible refine CallC_of (f := 10) (fun _ => same_fn _ _ _ _ _ _ _ _) (by first | exact Or.inr rfl | exact Or.inl rfl) ?_
  | (with_reducible assumption)
  | with_reducible refine fun (hG : okL _) => ?_
  | (with_reducible refine fun (hT : (_ : Bool) = _) => ?_)
  | (with_reducible first | exact hG.2 | exact hG.2.2 | exact hG.2.2.2 | exact hG.2.2.2.2)
  | with_reducible refine okL_mk ?_ ?_
  | with_reducible refine And.intro ?_ ?_
  | simp only [f4r0, f4r1, f4r2, f4r3, f4r4, f4r5, f4k, atA, runG_nil, runG_u, runG_g, runG_ucS, runG_gcS, stp, evs, evX, lget, lput, strip, putO, PO.dst, updO, okR, cells, splice, AV.cell, toD, toDs, binV, sameK, pickV, guardOf, okL_nil, sides, argsOf, rawOf, dv, dvL, owns, ownsL, flat, flatL, lkeep, seqQ, blockQ, initS, List.drop_succ_cons, List.drop_zero, List.take_succ_cons, List.take_zero, List.getD_cons_zero, List.getD_cons_succ, List.length_cons, List.length_nil, List.set_cons_zero, List.set_cons_succ, List.map_cons, List.map_nil, List.all_cons, List.all_nil, List.elem_cons, List.elem_nil, Option.getD_some, Option.getD_none, Option.bind_some, Option.isNone_none, reduceIte, reduceCtorEq, Nat.reduceEqDiff, Nat.reduceAdd, Nat.reduceLeDiff, Nat.zero_add, Nat.add_zero, Nat.reduceBEq, Bool.and_self, Bool.and_true, Bool.true_and, Bool.or_self, Bool.or_false, Bool.false_or, Bool.or_true, Bool.true_or, true_and, and_true, and_self, implies_true, forall_const, Bool.false_eq_true, id_eq, retQ, resOf, resV, Option.some.injEq, exists_eq_left', AV.d.injEq, D.v.injEq, Value.bool.injEq, imp_self, bldF, bldS, toVals, eqLs, Option.map_some, imp_false, not_true_eq_false, not_false_eq_true, foot, wrs, nm, nmL, PG.reads, PG.dst, PO.reads, X.sl, sls, slB, List.append_nil, List.cons_append, List.nil_append, Option.toList_some, Option.toList_none, loopQ_exit, loopQ_ret, subS, subO, Bool.bne_false, Bool.bne_true, elemsOf, bslD, bslS]
  all_goals grind [better, same]
abbrev Attr.row (x : Attr) : List D := [.v (.bool x.ok), .v (.int .i64 x.pref), .v (.int .i64 x.cost), .v (.int .u8 x.tags)]
abbrev Attr.box (x : Attr) : List AV := [.d (.v (.bool x.ok)), .d (.v (.int .i64 x.pref)), .d (.v (.int .i64 x.cost)), .d (.v (.int .u8 x.tags))]
def attr0 : Attr := ⟨false, 0, 0, 0⟩
def best (rs : List Attr) : Attr := rs.foldl (fun b a => if better a b then a else b) attr0
instance : Inhabited Attr := ⟨attr0⟩
theorem row_at (l : List Attr) (i : Nat) (h : i < l.length) : (l.map Attr.row).getD (i : Int).toNat [] = Attr.row (l.getD i default) ∧ i < l.length := by
  simp [List.getD, h]
theorem best_step (l : List Attr) (i : Nat) (h : i < l.length) : best (l.take (i + 1)) = if better (l.getD i default) (best (l.take i)) then l.getD i default else best (l.take i) := by
  have e : l.getD i default = l[i] := by simp [List.getD, h]
  rw [List.take_succ_eq_append_getElem h, e]
  unfold best
  rw [List.foldl_append]
  rfl
theorem better_trans {a b c : Attr} (h1 : better a b = true) (h2 : better b c = true) : better a c = true := by grind [better]
theorem better_irr (a : Attr) : better a a = false := by grind [better]
theorem fold_spec : ∀ (l : List Attr) (b : Attr), let r := l.foldl (fun b a => if better a b then a else b) b
    (∀ x ∈ l, better x r = false) ∧ better b r = false ∧ (r = b ∨ (r ∈ l ∧ r.ok = true))
  | [], b => by simp [better_irr]
  | a :: l, b => by
    obtain ⟨h1, h2, h3⟩ := fold_spec l (if better a b then a else b)
    simp only [List.foldl_cons]
    generalize l.foldl (fun b a => if better a b then a else b) (if better a b then a else b) = r at h1 h2 h3
    cases c : better a b with
    | true =>
      rw [c] at h2 h3
      simp only [if_true] at h2 h3
      refine ⟨fun x hx => ?_, ?_, ?_⟩
      · rcases List.mem_cons.1 hx with rfl | hx
        · exact h2
        · exact h1 x hx
      · cases hb : better b r with
        | false => rfl
        | true => rw [better_trans c hb] at h2; cases h2
      · rcases h3 with rfl | h3
        · exact .inr ⟨by simp, by grind [better]⟩
        · exact .inr ⟨by simp [h3.1], h3.2⟩
    | false =>
      rw [c] at h2 h3
      simp only [Bool.false_eq_true, if_false] at h2 h3
      refine ⟨fun x hx => ?_, h2, ?_⟩
      · rcases List.mem_cons.1 hx with rfl | hx
        · cases hb : better x r with
          | false => rfl
          | true =>
            rcases h3 with rfl | h3
            · rw [c] at hb; cases hb
            · exfalso; grind [better]
        · exact h1 x hx
      · rcases h3 with rfl | h3
        · exact .inl rfl
        · exact .inr ⟨by simp [h3.1], h3.2⟩
theorem best_fn (l : List Attr) (hl : l.length ≤ maxLen) : FnS Try.prog 11 [.d (.sl 4 (l.map Attr.row))] (.ag (best l).box) := by
  refine fn_of teok Try.func11 (by kernel_rfl) f11c f11k [.cell 2 23] rfl (by show 1 ≤ 18; omega) ?_
  repeat' first
  | with_reducible refine awp_seq ?_
  | with_reducible refine awp_block ?_
  | with_reducible refine awp_reg ?_
  | with_reducible refine awp_regD ?_
  | with_reducible refine awp_ret ?_
  | with_reducible refine awp_skip ?_
  | with_reducible refine awp_exit ?_
  | with_reducible refine normQ_of ?_
  | with_reducible refine runD_nil ?_
  | with_reducible refine runD_cons ?_
  | with_reducible refine runF_cons ?_
  | with_reducible refine runF_nil ?_
  | with_reducible refine KF_of ?_
  | with_reducible refine chkQ_of rfl ?_
  | with_reducible refine awp_cond (by simp only [evX, lget, Option.getD_some, reduceIte, Nat.reduceEqDiff]; rfl) (fun hc => ?_) (fun hc => ?_)
  | with_reducible refine CallU_of (f := 9) (better_fn _ _ _ _ _ _ _ _) (by first | exact Or.inr rfl | exact Or.inl rfl) ?_
  | with_reducible refine CallC_of (f := 9) (fun _ => better_fn _ _ _ _ _ _ _ _) (by first | exact Or.inr rfl | exact Or.inl rfl) ?_
  | (with_reducible assumption)
  | with_reducible refine fun (hG : okL _) => ?_
  | (with_reducible refine fun (hT : (_ : Bool) = _) => ?_)
  | (with_reducible first | exact hG.2 | exact hG.2.2 | exact hG.2.2.2 | exact hG.2.2.2.2)
  | with_reducible refine okL_mk ?_ ?_
  | with_reducible refine And.intro ?_ ?_
  | (with_reducible refine awp_loopI (fun i : Nat => i ≤ l.length) (fun i => l.length - i) (fun i => [(0, .d (.sl 4 (l.map Attr.row))), (2, .ptr 2 0), (3, .ptr 3 0), (6, .d (.sl 4 (l.map Attr.row))), (7, .d (.v (.int .i64 l.length))), (8, .d (.v (.int .i64 i)))]) (fun i => [(2, .box attr0.box), (3, .box (best (l.take i)).box)]) 0 (Nat.zero_le _) (Wk_sub rfl rfl ?_ ?_) (fun i hi => ?_))
  | (replace hc := row_at l i (Int.ofNat_lt.1 (of_decide_eq_true hc)); have hlt := hc.2; replace hc := hc.1)
  | (with_reducible refine loopQ_next (i + 1) ?_ ?_ (Wk_sub rfl rfl ?_ ?_))
  | simp only [f11r0, f11r1, f11r2, f11r3, f11r4, f11r5, f11r6, f11r7, f11r8, hc, f11k, atA, te23, List.length_map, runG_nil, runG_u, runG_g, runG_ucS, runG_gcS, stp, evs, evX, lget, lput, strip, putO, PO.dst, updO, okR, cells, splice, AV.cell, toD, toDs, binV, sameK, pickV, guardOf, okL_nil, sides, argsOf, rawOf, dv, dvL, owns, ownsL, flat, flatL, lkeep, seqQ, blockQ, initS, List.drop_succ_cons, List.drop_zero, List.take_succ_cons, List.take_zero, List.getD_cons_zero, List.getD_cons_succ, List.length_cons, List.length_nil, List.set_cons_zero, List.set_cons_succ, List.map_cons, List.map_nil, List.all_cons, List.all_nil, List.elem_cons, List.elem_nil, Option.getD_some, Option.getD_none, Option.bind_some, Option.isNone_none, reduceIte, reduceCtorEq, Nat.reduceEqDiff, Nat.reduceAdd, Nat.reduceLeDiff, Nat.zero_add, Nat.add_zero, Nat.reduceBEq, Bool.and_self, Bool.and_true, Bool.true_and, Bool.or_self, Bool.or_false, Bool.false_or, Bool.or_true, Bool.true_or, true_and, and_true, and_self, implies_true, forall_const, Bool.false_eq_true, id_eq, retQ, resOf, resV, Option.some.injEq, exists_eq_left', AV.d.injEq, D.v.injEq, Value.bool.injEq, imp_self, bldF, bldS, toVals, eqLs, Option.map_some, imp_false, not_true_eq_false, not_false_eq_true, foot, wrs, nm, nmL, PG.reads, PG.dst, PO.reads, X.sl, sls, slB, List.append_nil, List.cons_append, List.nil_append, Option.toList_some, Option.toList_none, loopQ_exit, loopQ_ret, subS, subO, Bool.bne_false, Bool.bne_true, elemsOf, bslD, bslS]
  | simp only [f11r0, f11r1, f11r2, f11r3, f11r4, f11r5, f11r6, f11r7, f11r8, f11k, atA, te23, List.length_map, runG_nil, runG_u, runG_g, runG_ucS, runG_gcS, stp, evs, evX, lget, lput, strip, putO, PO.dst, updO, okR, cells, splice, AV.cell, toD, toDs, binV, sameK, pickV, guardOf, okL_nil, sides, argsOf, rawOf, dv, dvL, owns, ownsL, flat, flatL, lkeep, seqQ, blockQ, initS, List.drop_succ_cons, List.drop_zero, List.take_succ_cons, List.take_zero, List.getD_cons_zero, List.getD_cons_succ, List.length_cons, List.length_nil, List.set_cons_zero, List.set_cons_succ, List.map_cons, List.map_nil, List.all_cons, List.all_nil, List.elem_cons, List.elem_nil, Option.getD_some, Option.getD_none, Option.bind_some, Option.isNone_none, reduceIte, reduceCtorEq, Nat.reduceEqDiff, Nat.reduceAdd, Nat.reduceLeDiff, Nat.zero_add, Nat.add_zero, Nat.reduceBEq, Bool.and_self, Bool.and_true, Bool.true_and, Bool.or_self, Bool.or_false, Bool.false_or, Bool.or_true, Bool.true_or, true_and, and_true, and_self, implies_true, forall_const, Bool.false_eq_true, id_eq, retQ, resOf, resV, Option.some.injEq, exists_eq_left', AV.d.injEq, D.v.injEq, Value.bool.injEq, imp_self, bldF, bldS, toVals, eqLs, Option.map_some, imp_false, not_true_eq_false, not_false_eq_true, foot, wrs, nm, nmL, PG.reads, PG.dst, PO.reads, X.sl, sls, slB, List.append_nil, List.cons_append, List.nil_append, Option.toList_some, Option.toList_none, loopQ_exit, loopQ_ret, subS, subO, Bool.bne_false, Bool.bne_true, elemsOf, bslD, bslS]
  all_goals first | omega | exact count64 hlt hl | (rw [best_step l i hlt]; first | rw [if_pos hc] | rw [if_neg (Bool.eq_false_iff.1 hc)]) | (have hq := of_decide_eq_false hc; rw [List.take_of_length_le (by omega)]) | rfl
theorem same_of (x y : Attr) (h1 : better x y = false) (h2 : better y x = false) (hx : x = attr0 ∨ x.ok = true) (hy : y = attr0 ∨ y.ok = true) : same x y = true := by
  rcases hx with rfl | hx <;> rcases hy with rfl | hy <;> grind [better, same, attr0]
theorem best_wf (l : List Attr) : best l = attr0 ∨ (best l ∈ l ∧ (best l).ok = true) := (fold_spec l attr0).2.2
theorem best_ge (l : List Attr) {x : Attr} (h : x ∈ l) : better x (best l) = false := (fold_spec l attr0).1 x h
theorem best_ge0 (l : List Attr) : better attr0 (best l) = false := (fold_spec l attr0).2.1
theorem better_weak {x y z : Attr} (h1 : better x y = false) (h2 : better y z = false) : better x z = false := by grind [better]
theorem best_le (l : List Attr) (m : Attr) (h0 : better attr0 m = false) (h : ∀ x ∈ l, better x m = false) : better (best l) m = false := by
  rcases best_wf l with hq | ⟨hq, _⟩
  · rw [hq]; exact h0
  · exact h _ hq
theorem best_parts (l1 l2 : List Attr) : same (best (l1 ++ l2)) (best [best l1, best l2]) = true := by
  have w1 : ∀ l, best l = attr0 ∨ (best l).ok = true := fun l => (best_wf l).imp id (·.2)
  refine same_of _ _ (best_le _ _ (best_ge0 _) fun x hx => ?_) (best_le _ _ (best_ge0 _) fun x hx => ?_) (w1 _) (w1 _)
  · rcases List.mem_append.1 hx with hx | hx
    · exact better_weak (best_ge l1 hx) (best_ge _ (by simp))
    · exact better_weak (best_ge l2 hx) (best_ge _ (by simp))
  · simp only [List.mem_cons, List.not_mem_nil, or_false] at hx
    rcases hx with rfl | rfl
    · exact best_le _ _ (best_ge0 _) fun y hy => best_ge _ (by simp [hy])
    · exact best_le _ _ (best_ge0 _) fun y hy => best_ge _ (by simp [hy])
theorem best2_fn (a b : Attr) : FnS Try.prog 11 [.d (.sl 4 [a.row, b.row])] (.ag (best [a, b]).box) := best_fn [a, b] (by have hm : maxLen = 9223372036854775807 := rfl; simp only [List.length_cons, List.length_nil]; omega)
theorem attrParts_fn (l1 l2 : List Attr) (hl : l1.length + l2.length ≤ 1048576) : FnS Try.prog 7 [.d (.sl 4 (l1.map Attr.row)), .d (.sl 4 (l2.map Attr.row))] (.d (.v (.bool true))) := by
  have hm : maxLen = 9223372036854775807 := rfl
  refine fn_of teok Try.func7 (by kernel_rfl) f7c f7k [.tmp 4] rfl (by show 2 ≤ 19; omega) ?_
  repeat' first
  | with_reducible refine awp_seq ?_
  | with_reducible refine awp_block ?_
  | with_reducible refine awp_reg ?_
  | with_reducible refine awp_regD ?_
  | with_reducible refine awp_ret ?_
  | with_reducible refine awp_skip ?_
  | with_reducible refine awp_exit ?_
  | with_reducible refine normQ_of ?_
  | with_reducible refine runD_nil ?_
  | with_reducible refine runD_cons ?_
  | with_reducible refine runF_cons ?_
  | with_reducible refine runF_nil ?_
  | with_reducible refine KF_of ?_
  | with_reducible refine chkQ_of rfl ?_
  | with_reducible refine awp_cond (by simp only [evX, lget, Option.getD_some, reduceIte, Nat.reduceEqDiff]; rfl) (fun hc => ?_) (fun hc => ?_)
  | with_reducible refine CallU_of (f := 8) (awake_fn) (by first | exact Or.inr rfl | exact Or.inl rfl) ?_
  | with_reducible refine CallC_of (f := 8) (fun _ => awake_fn) (by first | exact Or.inr rfl | exact Or.inl rfl) ?_
  | with_reducible refine CallU_of (f := 10) (same_fn _ _ _ _ _ _ _ _) (by first | exact Or.inr rfl | exact Or.inl rfl) ?_
  | with_reducible refine CallC_of (f := 10) (fun _ => same_fn _ _ _ _ _ _ _ _) (by first | exact Or.inr rfl | exact Or.inl rfl) ?_
  | with_reducible refine CallU_of (f := 11) (best_fn (l1 ++ l2) (by rw [List.length_append]; omega)) (by first | exact Or.inr rfl | exact Or.inl rfl) ?_
  | with_reducible refine CallC_of (f := 11) (fun _ => best_fn (l1 ++ l2) (by rw [List.length_append]; omega)) (by first | exact Or.inr rfl | exact Or.inl rfl) ?_
  | with_reducible refine CallU_of (f := 11) (best_fn l1 (by omega)) (by first | exact Or.inr rfl | exact Or.inl rfl) ?_
  | with_reducible refine CallC_of (f := 11) (fun _ => best_fn l1 (by omega)) (by first | exact Or.inr rfl | exact Or.inl rfl) ?_
  | with_reducible refine CallU_of (f := 11) (best_fn l2 (by omega)) (by first | exact Or.inr rfl | exact Or.inl rfl) ?_
  | with_reducible refine CallC_of (f := 11) (fun _ => best_fn l2 (by omega)) (by first | exact Or.inr rfl | exact Or.inl rfl) ?_
  | with_reducible refine CallU_of (f := 11) (best2_fn (best l1) (best l2)) (by first | exact Or.inr rfl | exact Or.inl rfl) ?_
  | with_reducible refine CallC_of (f := 11) (fun _ => best2_fn (best l1) (best l2)) (by first | exact Or.inr rfl | exact Or.inl rfl) ?_
  | (with_reducible assumption)
  | with_reducible refine fun (hG : okL _) => ?_
  | (with_reducible refine fun (hT : (_ : Bool) = _) => ?_)
  | (with_reducible first | exact hG.2 | exact hG.2.2 | exact hG.2.2.2 | exact hG.2.2.2.2)
  | with_reducible refine okL_mk ?_ ?_
  | with_reducible refine And.intro ?_ ?_
  | simp only [f7r0, f7r1, f7r2, f7r3, f7k, atA, te23, List.length_map, ← List.map_append, runG_nil, runG_u, runG_g, runG_ucS, runG_gcS, stp, evs, evX, lget, lput, strip, putO, PO.dst, updO, okR, cells, splice, AV.cell, toD, toDs, binV, sameK, pickV, guardOf, okL_nil, sides, argsOf, rawOf, dv, dvL, owns, ownsL, flat, flatL, lkeep, seqQ, blockQ, initS, List.drop_succ_cons, List.drop_zero, List.take_succ_cons, List.take_zero, List.getD_cons_zero, List.getD_cons_succ, List.length_cons, List.length_nil, List.set_cons_zero, List.set_cons_succ, List.map_cons, List.map_nil, List.all_cons, List.all_nil, List.elem_cons, List.elem_nil, Option.getD_some, Option.getD_none, Option.bind_some, Option.isNone_none, reduceIte, reduceCtorEq, Nat.reduceEqDiff, Nat.reduceAdd, Nat.reduceLeDiff, Nat.zero_add, Nat.add_zero, Nat.reduceBEq, Bool.and_self, Bool.and_true, Bool.true_and, Bool.or_self, Bool.or_false, Bool.false_or, Bool.or_true, Bool.true_or, true_and, and_true, and_self, implies_true, forall_const, Bool.false_eq_true, id_eq, retQ, resOf, resV, Option.some.injEq, exists_eq_left', AV.d.injEq, D.v.injEq, Value.bool.injEq, imp_self, bldF, bldS, toVals, eqLs, Option.map_some, imp_false, not_true_eq_false, not_false_eq_true, foot, wrs, nm, nmL, PG.reads, PG.dst, PO.reads, X.sl, sls, slB, List.append_nil, List.cons_append, List.nil_append, Option.toList_some, Option.toList_none, loopQ_exit, loopQ_ret, subS, subO, Bool.bne_false, Bool.bne_true, elemsOf, bslD, bslS]
  all_goals first | (simp at hc; done) | omega | exact best_parts l1 l2 | skip
theorem rows_of {n : Nat} : ∀ (l : List (List D)), (∀ x ∈ l, x.length = 4 ∧ dT te (n + 2) 23 x) → ∃ rs : List Attr, l = rs.map Attr.row
  | [], _ => ⟨[], rfl⟩
  | x :: l, h => by
    obtain ⟨rs, rfl⟩ := rows_of l (fun y hy => h y (by simp [hy]))
    obtain ⟨o, p, c, t, rfl⟩ := attr_of (h x (by simp)).2
    exact ⟨⟨o, p, c, t⟩ :: rs, rfl⟩
theorem attrParts_as (av : List AV) (h : dArgs te 3 [27, 27] av) (hN : szAs av ≤ 1048576) : FnS Try.prog 7 av (.d (.v (.bool true))) := by
  obtain ⟨x, _, rfl, hx, y, _, rfl, hy, rfl⟩ := h
  simp only [dT, te27, te23] at hx hy
  obtain ⟨l, rfl, hl, hr⟩ := hx
  obtain ⟨l', rfl, hl', hr'⟩ := hy
  obtain ⟨rs, rfl⟩ := rows_of (n := 0) l (fun y hy => ⟨(hr y hy).1, by simp only [dT, te23]; exact (hr y hy).2⟩)
  obtain ⟨rs', rfl⟩ := rows_of (n := 0) l' (fun y hy => ⟨(hr' y hy).1, by simp only [dT, te23]; exact (hr' y hy).2⟩)
  have h1 := szLL_len (rs.map Attr.row) (fun x hx => by rw [(hr x hx).1]; decide)
  have h2 := szLL_len (rs'.map Attr.row) (fun x hx => by rw [(hr' x hx).1]; decide)
  have hN : szLL (rs.map Attr.row) + 1 + (szLL (rs'.map Attr.row) + 1 + 0) ≤ 1048576 := hN
  rw [List.length_map] at h1 h2
  exact attrParts_fn rs rs' (by omega)
theorem own : ownKnob Try.prog.godebug = none := by kernel_rfl
theorem laidOut : laidOutB Try.prog = true := by kernel_rfl
theorem isBulk {H : Type} : Bulk (H := H) Rows.uptoBulk Rows.uptoBulkAll where
  lit l := by cases l <;> simp [Rows.uptoBulk]
  str b := by simp [Rows.uptoBulk]
  nil := by simp [Rows.uptoBulk]
  slice l s := by simp [Rows.uptoBulk]
  agg l := by simp [Rows.uptoBulk]
  nilA := by simp [Rows.uptoBulkAll]
  cons x r := by simp [Rows.uptoBulkAll]

set_option maxRecDepth 100000 in
theorem attrParts_lifted (os : Os) (started : os.Started) (H : Type) (enc : TypeId × Value → H) (F0 : Stop.Interp) :
    ReturnsInHanded {} Try.checked os 7 .any ((Rows.OpenSpec.upto Rows.attrPartsSpec).pre6 enc Try.prog Try.f7 Rows.attrPartsUptoRow.domain false) (((Rows.OpenSpec.upto Rows.attrPartsSpec).at F0).post enc Try.prog Try.f7 false true false false) := by
  refine returnsInHanded_of_cond (C := Try.checked) (s := Rows.OpenSpec.upto Rows.attrPartsSpec) (k := Rows.uptoSmall) rfl own started (by kernel_rfl) Try.func7
    (OpenSpec.witness (enc := enc) (C := Try.checked) (s := Rows.OpenSpec.upto Rows.attrPartsSpec) (k := Rows.uptoSmall) rfl false ⟨#[], #[.slice none 0 0, .slice none 0 0], []⟩ 8 (by kernel_rfl) (by kernel_rfl) (by kernel_rfl)
      (x := ([.nil, .nil], [], [])) (by kernel_rfl) (by kernel_rfl) (by kernel_rfl)) ?_
  intro W base args ds gs before hval hW hcnd hk _
  have hp : Try.f7.params.toList = [27, 27] := by kernel_rfl
  refine law_callsU (n := 3) (b := 4) (N := 1048576) isBulk laidOut (by rw [hp]; exact List.forall_mem_cons.2 ⟨⟨by kernel_rfl, of_decide_eq_true (by kernel_rfl)⟩, List.forall_mem_cons.2 ⟨⟨by kernel_rfl, of_decide_eq_true (by kernel_rfl)⟩, (by simp)⟩⟩) (by rw [hp]; exact List.forall_mem_cons.2 ⟨by kernel_rfl, List.forall_mem_cons.2 ⟨by kernel_rfl, (by simp)⟩⟩) rfl (by kernel_rfl) (by kernel_rfl) (fun ds hd => ?_) hval hW (of_decide_eq_true hk) (fun av h hN => attrParts_as av (argsT_d teok _ _ _ (by rw [hp]; exact List.forall_mem_cons.2 ⟨rfl, List.forall_mem_cons.2 ⟨rfl, (by simp)⟩⟩) h |> (hp ▸ ·)) hN)
  have hd : ds.length = 2 := hd
  match ds, hd with
  | [_, _], _ => rfl
theorem attrParts_holds : Rows.AttrPartsUptoSaid :=
  OpenClaim.holds_of_cond 7 Try.f7 rfl rfl rfl rfl rfl rfl rfl ⟨rfl, rfl, rfl, rfl, rfl⟩ rfl rfl rfl rfl rfl (by kernel_rfl) Try.func7 (by kernel_rfl)
    (of_decide_eq_true (by kernel_rfl)) (by unfold Func.isWrapper; first | (rw [if_pos (by decide +kernel)]; kernel_rfl) | (rw [if_neg (by decide +kernel)]; exact ⟨rfl, rfl⟩))
    (fun os started H enc _ F0 => attrParts_lifted os started H enc F0)

end Go.Proofs.Ytdnpmfkicgooaaa
