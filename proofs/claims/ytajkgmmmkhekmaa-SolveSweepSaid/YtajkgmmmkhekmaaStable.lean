/- What layer 15 comes to: offers, choices, and whether all is stable. Printed by a program of this project (wip/mq). -/
import Derived.Test.YtajkgmmmkhekmaaTake
import Derived.Test.YtajkgmmmkhekmaaAttr
import Derived.Test.YtajkgmmmkhekmaaMay
namespace Go.Proofs.Ytajkgmmmkhekmaa
open Go Mq Go.ChangeShapes Go.WideShapes Go.ChangeAt Go.RowKit
/-! maquette/stable.Offers -/
def f16r0 : List PG := [.u (.bx 3 (.t 0)), .u (.mv 6 (.nl 4))]
def f16r1 : List PG := [.u (.mv 7 (.nl 4))]
def f16r2 : List PG := [.u (.mv 11 (.t 2)), .u (.bo 12 .lss (.t 11) (.k (.int .i64 0))), .u (.mv 13 (.t 12)), .g 13 false (.mv 14 (.t 2)), .g 13 false (.fa 15 2 (.t 3)), .g 13 false (.ld 16 1 false (.t 15)), .g 13 false (.len 17 (.t 16)), .g 13 false (.bo 18 .geq (.t 14) (.t 17)), .u (.pick 19 (.t 13) (.k (.bool true)) (.t 18))]
def f16r3 : List PG := [.u (.mv 6 (.nl 4))]
abbrev f16p0 : PC := .seq (.reg f16r3) (.ret)
abbrev f16p1 : PC := .cond (.t 19) (f16p0) (.skip)
def f16r4 : List PG := [.u (.fa 20 2 (.t 3)), .u (.ld 21 1 false (.t 20)), .u (.mv 22 (.t 2)), .u (.ia 23 1 (.t 21) (.t 22)), .u (.ld 24 1 false (.t 23)), .u (.len 25 (.t 24)), .u (.mv 26 (.k (.int .i64 0)))]
def f16r5 : List PG := [.u (.bo 27 .lss (.t 26) (.t 25))]
def f16r6 : List PG := [.u (.ia 28 4 (.t 24) (.t 26)), .u (.ld 29 4 true (.t 28)), .u (.al 9 [.d (.v (.int .i64 0)), .d (.v (.int .i64 0)), .nl 10, .nl 10]), .u (.st 4 (.t 9) (.t 29))]
def f16r7 : List PG := [.u (.al 10 [.d (.v (.bool false)), .d (.v (.int .i64 0)), .d (.v (.int .i64 0)), .d (.v (.int .u8 0))])]
def f16r8 : List PG := [.u (.fa 30 0 (.t 9)), .u (.ld 31 1 false (.t 30)), .u (.bo 32 .geq (.t 31) (.k (.int .i64 0))), .u (.mv 33 (.t 32)), .g 33 true (.fa 34 0 (.t 9)), .g 33 true (.ld 35 1 false (.t 34)), .g 33 true (.mv 36 (.t 1)), .g 33 true (.len 37 (.t 36)), .g 33 true (.bo 38 .lss (.t 35) (.t 37)), .u (.pick 39 (.t 33) (.t 38) (.k (.bool false)))]
def f16r9 : List PG := [.u (.ld 40 4 true (.t 9)), .u (.mv 41 (.t 1)), .u (.fa 42 0 (.t 9)), .u (.ld 43 1 false (.t 42)), .u (.ia 44 4 (.t 41) (.t 43)), .u (.ld 45 4 true (.t 44)), .uc 46 26 [.t 40, .t 45], .u (.st 4 (.t 10) (.t 46))]
abbrev f16p2 : PC := .cond (.t 39) (.regD f16r9 []) (.skip)
def f16r10 : List PG := [.u (.mv 47 (.t 7)), .u (.ld 48 4 true (.t 10)), .u (.bsl 49 45 4 [.t 48]), .u (.app 50 45 4 32 (.t 47) (.t 49)), .u (.mv 7 (.t 50))]
abbrev f16p3 : PC := .seq (.seq (.reg f16r8) (f16p2)) (.reg f16r10)
abbrev f16p4 : PC := .seq (.reg f16r7) (f16p3)
def f16r11 : List PG := [.u (.bo 51 .add (.t 26) (.k (.int .i64 1))), .u (.mv 26 (.t 51))]
abbrev f16p5 : PC := .seq (.block 1 (.seq (.reg f16r6) (f16p4))) (.reg f16r11)
abbrev f16p6 : PC := .seq (.cond (.t 27) (.skip) (.exit 0)) (f16p5)
abbrev f16p7 : PC := .seq (.reg f16r5) (f16p6)
abbrev f16p8 : PC := .block 0 (.loop (f16p7))
def f16r12 : List PG := [.u (.mv 52 (.t 7)), .u (.mv 6 (.t 52))]
abbrev f16p9 : PC := .seq (.reg f16r12) (.ret)
abbrev f16p10 : PC := .seq (.seq (.reg f16r4) (f16p8)) (f16p9)
abbrev f16p11 : PC := .seq (.seq (.reg f16r2) (f16p1)) (f16p10)
abbrev f16p12 : PC := .seq (.reg f16r1) (f16p11)
abbrev f16pc : PC := .seq (.reg f16r0) (f16p12)
def f16k : List Nat := [0, 1, 2, 3, 6, 7, 9, 10, 19, 24, 25, 26, 27, 39]
theorem f16c : Try.f16.body.bind (cC te Try.f16.ntmps) = some f16pc := by kernel_rfl
/-! maquette/maquettelaw15.offers -/
def f17r0 : List PG := [.u (.bx 3 (.t 0)), .u (.mv 6 (.nl 4))]
def f17r1 : List PG := [.u (.mv 7 (.nl 4))]
def f17r2 : List PG := [.u (.mv 11 (.t 2)), .u (.bo 12 .lss (.t 11) (.k (.int .i64 0))), .u (.mv 13 (.t 12)), .g 13 false (.mv 14 (.t 2)), .g 13 false (.fa 15 2 (.t 3)), .g 13 false (.ld 16 1 false (.t 15)), .g 13 false (.len 17 (.t 16)), .g 13 false (.bo 18 .geq (.t 14) (.t 17)), .u (.pick 19 (.t 13) (.k (.bool true)) (.t 18))]
def f17r3 : List PG := [.u (.mv 6 (.nl 4))]
abbrev f17p0 : PC := .seq (.reg f17r3) (.ret)
abbrev f17p1 : PC := .cond (.t 19) (f17p0) (.skip)
def f17r4 : List PG := [.u (.fa 20 2 (.t 3)), .u (.ld 21 1 false (.t 20)), .u (.mv 22 (.t 2)), .u (.ia 23 1 (.t 21) (.t 22)), .u (.ld 24 1 false (.t 23)), .u (.len 25 (.t 24)), .u (.mv 26 (.k (.int .i64 0)))]
def f17r5 : List PG := [.u (.bo 27 .lss (.t 26) (.t 25))]
def f17r6 : List PG := [.u (.ia 28 4 (.t 24) (.t 26)), .u (.ld 29 4 true (.t 28)), .u (.al 9 [.d (.v (.int .i64 0)), .d (.v (.int .i64 0)), .nl 10, .nl 10]), .u (.st 4 (.t 9) (.t 29))]
def f17r7 : List PG := [.u (.bld 30 [.d (.v (.bool false)), .d (.v (.int .i64 0)), .d (.v (.int .i64 0)), .d (.v (.int .u8 0))] []), .u (.al 10 [.d (.v (.bool false)), .d (.v (.int .i64 0)), .d (.v (.int .i64 0)), .d (.v (.int .u8 0))]), .u (.st 4 (.t 10) (.t 30))]
def f17r8 : List PG := [.u (.fa 31 0 (.t 9)), .u (.ld 32 1 false (.t 31)), .u (.bo 33 .geq (.t 32) (.k (.int .i64 0))), .u (.mv 34 (.t 33)), .g 34 true (.fa 35 0 (.t 9)), .g 34 true (.ld 36 1 false (.t 35)), .g 34 true (.mv 37 (.t 1)), .g 34 true (.len 38 (.t 37)), .g 34 true (.bo 39 .lss (.t 36) (.t 38)), .u (.pick 40 (.t 34) (.t 39) (.k (.bool false)))]
def f17r9 : List PG := [.u (.ld 41 4 true (.t 9)), .u (.mv 42 (.t 1)), .u (.fa 43 0 (.t 9)), .u (.ld 44 1 false (.t 43)), .u (.ia 45 4 (.t 42) (.t 44)), .u (.ld 46 4 true (.t 45)), .uc 47 26 [.t 41, .t 46], .u (.st 4 (.t 10) (.t 47))]
abbrev f17p2 : PC := .cond (.t 40) (.regD f17r9 []) (.skip)
def f17r10 : List PG := [.u (.mv 48 (.t 7)), .u (.ld 49 4 true (.t 10)), .u (.bsl 50 45 4 [.t 49]), .u (.app 51 45 4 32 (.t 48) (.t 50)), .u (.mv 7 (.t 51))]
abbrev f17p3 : PC := .seq (.seq (.reg f17r8) (f17p2)) (.reg f17r10)
abbrev f17p4 : PC := .seq (.reg f17r7) (f17p3)
def f17r11 : List PG := [.u (.bo 52 .add (.t 26) (.k (.int .i64 1))), .u (.mv 26 (.t 52))]
abbrev f17p5 : PC := .seq (.block 1 (.seq (.reg f17r6) (f17p4))) (.reg f17r11)
abbrev f17p6 : PC := .seq (.cond (.t 27) (.skip) (.exit 0)) (f17p5)
abbrev f17p7 : PC := .seq (.reg f17r5) (f17p6)
abbrev f17p8 : PC := .block 0 (.loop (f17p7))
def f17r12 : List PG := [.u (.mv 53 (.t 7)), .u (.mv 6 (.t 53))]
abbrev f17p9 : PC := .seq (.reg f17r12) (.ret)
abbrev f17p10 : PC := .seq (.seq (.reg f17r4) (f17p8)) (f17p9)
abbrev f17p11 : PC := .seq (.seq (.reg f17r2) (f17p1)) (f17p10)
abbrev f17p12 : PC := .seq (.reg f17r1) (f17p11)
abbrev f17pc : PC := .seq (.reg f17r0) (f17p12)
def f17k : List Nat := [0, 1, 2, 3, 6, 7, 9, 10, 19, 24, 25, 26, 27, 40]
theorem f17c : Try.f17.body.bind (cC te Try.f17.ntmps) = some f17pc := by kernel_rfl
/-! maquette/stable.Fixed -/
def f18r0 : List PG := [.u (.bx 2 (.t 0)), .u (.mv 4 (.k (.bool false)))]
def f18r1 : List PG := [.u (.mv 5 (.t 1)), .u (.bo 6 .geq (.t 5) (.k (.int .i64 0))), .u (.mv 7 (.t 6)), .g 7 true (.mv 8 (.t 1)), .g 7 true (.fa 9 0 (.t 2)), .g 7 true (.ld 10 1 false (.t 9)), .g 7 true (.len 11 (.t 10)), .g 7 true (.bo 12 .lss (.t 8) (.t 11)), .u (.pick 13 (.t 7) (.t 12) (.k (.bool false))), .u (.mv 14 (.t 13)), .g 14 true (.fa 15 0 (.t 2)), .g 14 true (.ld 16 1 false (.t 15)), .g 14 true (.mv 17 (.t 1)), .g 14 true (.ia 18 1 (.t 16) (.t 17)), .g 14 true (.ld 19 1 false (.t 18)), .g 14 true (.mv 20 (.t 19)), .g 20 false (.mv 21 (.t 1)), .g 20 false (.fa 22 1 (.t 2)), .g 20 false (.ld 23 1 false (.t 22)), .g 20 false (.len 24 (.t 23)), .g 20 false (.bo 25 .lss (.t 21) (.t 24)), .g 20 false (.mv 26 (.t 25)), .g 26 true (.fa 27 1 (.t 2)), .g 26 true (.ld 28 1 false (.t 27)), .g 26 true (.mv 29 (.t 1)), .g 26 true (.ia 30 1 (.t 28) (.t 29)), .g 26 true (.ld 31 1 false (.t 30)), .g 26 true (.bo 32 .geq (.t 31) (.k (.int .i64 0))), .g 20 false (.pick 33 (.t 26) (.t 32) (.k (.bool false))), .g 14 true (.pick 34 (.t 20) (.k (.bool true)) (.t 33)), .u (.pick 35 (.t 14) (.t 34) (.k (.bool false))), .u (.mv 4 (.t 35))]
abbrev f18p0 : PC := .seq (.reg f18r1) (.ret)
abbrev f18pc : PC := .seq (.reg f18r0) (f18p0)
def f18k : List Nat := [0, 1, 2, 4]
theorem f18c : Try.f18.body.bind (cC te Try.f18.ntmps) = some f18pc := by kernel_rfl
/-! maquette/maquettelaw15.fixed -/
def f19r0 : List PG := [.u (.bx 2 (.t 0)), .u (.mv 4 (.k (.bool false)))]
def f19r1 : List PG := [.u (.mv 5 (.t 1)), .u (.bo 6 .lss (.t 5) (.k (.int .i64 0))), .u (.mv 7 (.t 6)), .g 7 false (.mv 8 (.t 1)), .g 7 false (.fa 9 0 (.t 2)), .g 7 false (.ld 10 1 false (.t 9)), .g 7 false (.len 11 (.t 10)), .g 7 false (.bo 12 .geq (.t 8) (.t 11)), .u (.pick 13 (.t 7) (.k (.bool true)) (.t 12))]
def f19r2 : List PG := [.u (.mv 4 (.k (.bool false)))]
abbrev f19p0 : PC := .seq (.reg f19r2) (.ret)
abbrev f19p1 : PC := .cond (.t 13) (f19p0) (.skip)
def f19r3 : List PG := [.u (.fa 14 0 (.t 2)), .u (.ld 15 1 false (.t 14)), .u (.mv 16 (.t 1)), .u (.ia 17 1 (.t 15) (.t 16)), .u (.ld 18 1 false (.t 17)), .u (.mv 19 (.t 18)), .g 19 false (.mv 20 (.t 1)), .g 19 false (.fa 21 1 (.t 2)), .g 19 false (.ld 22 1 false (.t 21)), .g 19 false (.len 23 (.t 22)), .g 19 false (.bo 24 .lss (.t 20) (.t 23)), .g 19 false (.mv 25 (.t 24)), .g 25 true (.fa 26 1 (.t 2)), .g 25 true (.ld 27 1 false (.t 26)), .g 25 true (.mv 28 (.t 1)), .g 25 true (.ia 29 1 (.t 27) (.t 28)), .g 25 true (.ld 30 1 false (.t 29)), .g 25 true (.bo 31 .geq (.t 30) (.k (.int .i64 0))), .g 19 false (.pick 32 (.t 25) (.t 31) (.k (.bool false))), .u (.pick 33 (.t 19) (.k (.bool true)) (.t 32)), .u (.mv 4 (.t 33))]
abbrev f19p2 : PC := .seq (.reg f19r3) (.ret)
abbrev f19p3 : PC := .seq (.seq (.reg f19r1) (f19p1)) (f19p2)
abbrev f19pc : PC := .seq (.reg f19r0) (f19p3)
def f19k : List Nat := [0, 1, 2, 4, 13]
theorem f19c : Try.f19.body.bind (cC te Try.f19.ntmps) = some f19pc := by kernel_rfl
/-! maquette/stable.Choice -/
def f21r0 : List PG := [.u (.bx 3 (.t 0)), .u (.al 6 [.d (.v (.bool false)), .d (.v (.int .i64 0)), .d (.v (.int .i64 0)), .d (.v (.int .u8 0))])]
def f21r1 : List PG := [.u (.ld 7 3 true (.t 3)), .u (.mv 8 (.t 2)), .uc 9 18 [.t 7, .t 8]]
def f21r2 : List PG := [.uc 10 25 [], .u (.st 4 (.t 6) (.t 10))]
abbrev f21p0 : PC := .seq (.reg f21r2) (.ret)
abbrev f21p1 : PC := .cond (.t 9) (f21p0) (.skip)
def f21r3 : List PG := [.u (.ld 11 3 true (.t 3)), .u (.mv 12 (.t 1)), .u (.mv 13 (.t 2)), .uc 14 16 [.t 11, .t 12, .t 13], .uc 15 40 [.t 14], .u (.st 4 (.t 6) (.t 15))]
abbrev f21p2 : PC := .seq (.reg f21r3) (.ret)
abbrev f21p3 : PC := .seq (.seq (.reg f21r1) (f21p1)) (f21p2)
abbrev f21pc : PC := .seq (.reg f21r0) (f21p3)
def f21k : List Nat := [0, 1, 2, 3, 6, 9]
theorem f21c : Try.f21.body.bind (cC te Try.f21.ntmps) = some f21pc := by kernel_rfl
/-! maquette/maquettelaw15.choice -/
def f22r0 : List PG := [.u (.bx 3 (.t 0)), .u (.al 6 [.d (.v (.bool false)), .d (.v (.int .i64 0)), .d (.v (.int .i64 0)), .d (.v (.int .u8 0))])]
def f22r1 : List PG := [.u (.ld 10 3 true (.t 3)), .u (.mv 11 (.t 2)), .uc 12 19 [.t 10, .t 11]]
def f22r2 : List PG := [.u (.bld 13 [.d (.v (.bool false)), .d (.v (.int .i64 0)), .d (.v (.int .i64 0)), .d (.v (.int .u8 0))] [((0, 1), .k (.bool true)), ((1, 1), .k (.int .i64 100))]), .u (.st 4 (.t 6) (.t 13))]
abbrev f22p0 : PC := .seq (.reg f22r2) (.ret)
abbrev f22p1 : PC := .cond (.t 12) (f22p0) (.skip)
def f22r3 : List PG := [.u (.al 7 [.d (.v (.bool false)), .d (.v (.int .i64 0)), .d (.v (.int .i64 0)), .d (.v (.int .u8 0))])]
def f22r4 : List PG := [.u (.ld 14 3 true (.t 3)), .u (.mv 15 (.t 1)), .u (.mv 16 (.t 2)), .uc 17 17 [.t 14, .t 15, .t 16], .u (.len 18 (.t 17)), .u (.mv 19 (.k (.int .i64 0)))]
def f22r5 : List PG := [.u (.bo 20 .lss (.t 19) (.t 18))]
def f22r6 : List PG := [.u (.ia 21 4 (.t 17) (.t 19)), .u (.ld 22 4 true (.t 21)), .u (.al 9 [.d (.v (.bool false)), .d (.v (.int .i64 0)), .d (.v (.int .i64 0)), .d (.v (.int .u8 0))]), .u (.st 4 (.t 9) (.t 22))]
def f22r7 : List PG := [.u (.ld 23 4 true (.t 9)), .u (.ld 24 4 true (.t 7)), .uc 25 41 [.t 23, .t 24]]
def f22r8 : List PG := [.u (.ld 26 4 true (.t 9)), .u (.st 4 (.t 7) (.t 26))]
abbrev f22p2 : PC := .cond (.t 25) (.reg f22r8) (.skip)
abbrev f22p3 : PC := .seq (.reg f22r7) (f22p2)
def f22r9 : List PG := [.u (.bo 27 .add (.t 19) (.k (.int .i64 1))), .u (.mv 19 (.t 27))]
abbrev f22p4 : PC := .seq (.block 1 (.seq (.reg f22r6) (f22p3))) (.reg f22r9)
abbrev f22p5 : PC := .seq (.cond (.t 20) (.skip) (.exit 0)) (f22p4)
abbrev f22p6 : PC := .seq (.reg f22r5) (f22p5)
abbrev f22p7 : PC := .block 0 (.loop (f22p6))
def f22r10 : List PG := [.u (.ld 28 4 true (.t 7)), .u (.st 4 (.t 6) (.t 28))]
abbrev f22p8 : PC := .seq (.reg f22r10) (.ret)
abbrev f22p9 : PC := .seq (.seq (.reg f22r4) (f22p7)) (f22p8)
abbrev f22p10 : PC := .seq (.reg f22r3) (f22p9)
abbrev f22p11 : PC := .seq (.seq (.reg f22r1) (f22p1)) (f22p10)
abbrev f22pc : PC := .seq (.reg f22r0) (f22p11)
def f22k : List Nat := [0, 1, 2, 3, 6, 7, 9, 12, 17, 18, 19, 20, 25]
theorem f22c : Try.f22.body.bind (cC te Try.f22.ntmps) = some f22pc := by kernel_rfl
/-! maquette/stable.Is -/
def f24r0 : List PG := [.u (.bx 2 (.t 0)), .u (.mv 4 (.k (.bool false)))]
def f24r1 : List PG := [.u (.mv 6 (.t 1)), .u (.len 7 (.t 6)), .u (.fa 8 0 (.t 2)), .u (.ld 9 1 false (.t 8)), .u (.len 10 (.t 9)), .u (.beq 11 true false (.t 7) (.t 10))]
def f24r2 : List PG := [.u (.mv 4 (.k (.bool false)))]
abbrev f24p0 : PC := .seq (.reg f24r2) (.ret)
abbrev f24p1 : PC := .cond (.t 11) (f24p0) (.skip)
def f24r3 : List PG := [.u (.mv 12 (.t 1)), .u (.len 13 (.t 12)), .u (.mv 14 (.k (.int .i64 0)))]
def f24r4 : List PG := [.u (.bo 15 .lss (.t 14) (.t 13))]
def f24r5 : List PG := [.u (.mv 16 (.t 14)), .u (.mv 5 (.t 16))]
def f24r6 : List PG := [.u (.mv 17 (.t 1)), .u (.mv 18 (.t 5)), .u (.ia 19 4 (.t 17) (.t 18)), .u (.ld 20 4 true (.t 19)), .u (.ld 21 3 true (.t 2)), .u (.mv 22 (.t 1)), .u (.mv 23 (.t 5)), .uc 24 21 [.t 21, .t 22, .t 23], .uc 25 20 [.t 20, .t 24], .u (.no 26 (.t 25))]
def f24r7 : List PG := [.u (.mv 4 (.k (.bool false)))]
abbrev f24p2 : PC := .seq (.reg f24r7) (.ret)
abbrev f24p3 : PC := .cond (.t 26) (f24p2) (.skip)
abbrev f24p4 : PC := .seq (.regD f24r6 []) (f24p3)
def f24r8 : List PG := [.u (.bo 27 .add (.t 14) (.k (.int .i64 1))), .u (.mv 14 (.t 27))]
abbrev f24p5 : PC := .seq (.block 1 (.seq (.reg f24r5) (f24p4))) (.reg f24r8)
abbrev f24p6 : PC := .seq (.cond (.t 15) (.skip) (.exit 0)) (f24p5)
abbrev f24p7 : PC := .seq (.reg f24r4) (f24p6)
abbrev f24p8 : PC := .block 0 (.loop (f24p7))
def f24r9 : List PG := [.u (.mv 4 (.k (.bool true)))]
abbrev f24p9 : PC := .seq (.reg f24r9) (.ret)
abbrev f24p10 : PC := .seq (.seq (.reg f24r3) (f24p8)) (f24p9)
abbrev f24p11 : PC := .seq (.seq (.reg f24r1) (f24p1)) (f24p10)
abbrev f24pc : PC := .seq (.reg f24r0) (f24p11)
def f24k : List Nat := [0, 1, 2, 4, 5, 11, 13, 14, 15, 26]
theorem f24c : Try.f24.body.bind (cC te Try.f24.ntmps) = some f24pc := by kernel_rfl
set_option maxRecDepth 20000
set_option maxHeartbeats 4000000
set_option linter.unusedSimpArgs false
set_option linter.unusedVariables false

theorem offers_fn (n : Net) (hn : n.small) (l : List Attr) (hl : l.length ≤ 1048576) (k : Int) : FnS Try.prog 16 [n.av, .d (.sl 4 (l.map Attr.row)), .d (.v (.int .i64 k))] (.d (.sl 4 ((n.offers l k).map Attr.row))) := by
  have hm : maxLen = 9223372036854775807 := rfl
  refine fn_of teok Try.func16 (by kernel_rfl) f16c f16k [.tmp 6] rfl (by show 3 ≤ 53; omega) ?_
  repeat' first
  | (with_reducible refine awp_mid (.reg f16r10) [] [(10, .box (offerV l e).box)] ?_ ?_)
  | with_reducible refine awp_seq ?_
  | with_reducible refine awp_block ?_
  | with_reducible refine awp_reg ?_
  | with_reducible refine awp_regD ?_
  | with_reducible refine awp_ret ?_
  | with_reducible refine awp_skip ?_
  | with_reducible refine awp_exit ?_
  | with_reducible refine normQ_of ?_
  | with_reducible refine wkE_of ?_
  | with_reducible refine midQ_of (Wk_sub rfl rfl ?_ ?_)
  | with_reducible refine runD_nil ?_
  | with_reducible refine runD_cons ?_
  | with_reducible refine runF_cons ?_
  | with_reducible refine runF_nil ?_
  | with_reducible refine KF_of ?_
  | with_reducible refine chkQ_of rfl ?_
  | with_reducible refine awp_cond (by simp only [evX, lget, Option.getD_some, reduceIte, Nat.reduceEqDiff]; rfl) (fun hc => ?_) (fun hc => ?_)
  | with_reducible refine CallU_of (f := 26) (take_fn e (hn.ok.edge _ (List.mem_of_getElem? (getD_mem n.edges [] hk.1 hk.2)) e (List.mem_of_getElem? he.2.2.1)) (l.getD e.src.toNat default)) (by first | exact Or.inr (Or.inl rfl) | exact Or.inl rfl) ?_
  | with_reducible refine CallC_of (f := 26) (fun _ => take_fn e (hn.ok.edge _ (List.mem_of_getElem? (getD_mem n.edges [] hk.1 hk.2)) e (List.mem_of_getElem? he.2.2.1)) (l.getD e.src.toNat default)) (by first | exact Or.inr (Or.inl rfl) | exact Or.inl rfl) ?_
  | (with_reducible assumption)
  | with_reducible refine fun (hG : okL _) => ?_
  | (with_reducible refine fun (hT : (_ : Bool) = _) => ?_)
  | (with_reducible first | exact hG.2 | exact hG.2.2 | exact hG.2.2.2 | exact hG.2.2.2.2)
  | with_reducible refine okL_mk ?_ ?_
  | with_reducible refine And.intro ?_ ?_
  | (have hk := fix_rng hc; have g1 := at_int esD n.edges [] hk.1 hk.2; replace hc : True := trivial)
  | (with_reducible refine awp_loopU (b := f16p7) (fun x : Nat × List Attr => x.1 ≤ (n.edges.getD k.toNat []).length ∧ x.2.length = x.1 ∧ x.2 ++ ((n.edges.getD k.toNat []).drop x.1).map (offerV l) = n.offers l k) (fun x => (n.edges.getD k.toNat []).length - x.1) (fun x => [(26, .d (.v (.int .i64 x.1))), (7, .own 50 x.2.length)]) (fun x => [(50, .row 45 4 x.2.length (x.2.map Attr.row))]) ((0, [])) (⟨Nat.zero_le _, rfl, by rw [Net.offers, if_neg (by omega)]; simp⟩) (Wk_nl 7 50 45 rfl rfl (by decide)) (Wk_sub rfl rfl ?_ ?_) (fun x hx => ?_))
  | (refine Exists.elim (at_drop Arc.row (n.edges.getD k.toNat []) x.1 (Int.ofNat_lt.1 (of_decide_eq_true hc))) (fun e he => ?_); have g2 := he.2.1; have hrow := hn.row _ (List.mem_of_getElem? (getD_mem n.edges [] hk.1 hk.2)); replace hc : True := trivial)
  | (have g3v := offer_row hc; have g3 := g3v.1; replace hc : True := trivial)
  | (with_reducible refine loopQ_next ((x.1 + 1, x.2 ++ [offerV l e])) ?_ ?_ (Wk_sub rfl rfl ?_ ?_))
  | simp only [f16r0, f16r1, f16r2, f16r3, f16r4, f16r5, f16r6, f16r7, f16r8, f16r9, f16r10, f16r11, f16r12, g3, g2, g1, f16k, List.length_map, runG_nil, runG_u, runG_g, runG_ucS, runG_gcS, runG_uvS, stp, avL, avS, evs, evX, lget, lput, strip, putO, PO.dst, updO, okR, cells, splice, AV.cell, toD, toDs, binV, sameK, pickV, guardOf, okL_nil, sides, argsOf, rawOf, dv, dvL, owns, ownsL, flat, flatL, lkeep, seqQ, blockQ, initS, List.drop_succ_cons, List.drop_zero, List.take_succ_cons, List.take_zero, List.getD_cons_zero, List.getD_cons_succ, List.length_cons, List.length_nil, List.set_cons_zero, List.set_cons_succ, List.map_cons, List.map_nil, List.all_cons, List.all_nil, List.elem_cons, List.elem_nil, Option.getD_some, Option.getD_none, Option.bind_some, Option.isNone_none, reduceIte, reduceCtorEq, Nat.reduceEqDiff, Nat.reduceAdd, Nat.reduceLeDiff, Nat.zero_add, Nat.add_zero, Nat.reduceBEq, Bool.and_self, Bool.and_true, Bool.true_and, Bool.or_self, Bool.or_false, Bool.false_or, Bool.or_true, Bool.true_or, true_and, and_true, and_self, implies_true, forall_const, Bool.false_eq_true, id_eq, retQ, resOf, resV, Option.some.injEq, exists_eq_left', AV.d.injEq, D.v.injEq, Value.bool.injEq, imp_self, bldF, bldS, toVals, eqLs, Option.map_some, imp_false, not_true_eq_false, not_false_eq_true, foot, wrs, nm, nmL, PG.reads, PG.dst, PO.reads, X.sl, sls, slB, List.append_nil, List.cons_append, List.nil_append, Option.toList_some, Option.toList_none, loopQ_exit, loopQ_ret, subS, subO, Bool.bne_false, Bool.bne_true, elemsOf, bslD, bslS, mentries, isAgV, asA, lputs, mgetD_set, mcmp_set, mput_set, List.headD_cons, sealS, sealO, sealV, sealL, mput_nil, mcmp_nil, midQ_ret, midQ_exit, sealsS, sealsO, runW_nil, runW_cons, Bool.true_bne, Bool.false_bne, bne_self_eq_false, Int.reduceToNat, bndV, oSl, resR, runS_nil, runS_gc, ren, renL, renO, sg, gBack]
  | simp only [f16r0, f16r1, f16r2, f16r3, f16r4, f16r5, f16r6, f16r7, f16r8, f16r9, f16r10, f16r11, f16r12, g2, g1, f16k, List.length_map, runG_nil, runG_u, runG_g, runG_ucS, runG_gcS, runG_uvS, stp, avL, avS, evs, evX, lget, lput, strip, putO, PO.dst, updO, okR, cells, splice, AV.cell, toD, toDs, binV, sameK, pickV, guardOf, okL_nil, sides, argsOf, rawOf, dv, dvL, owns, ownsL, flat, flatL, lkeep, seqQ, blockQ, initS, List.drop_succ_cons, List.drop_zero, List.take_succ_cons, List.take_zero, List.getD_cons_zero, List.getD_cons_succ, List.length_cons, List.length_nil, List.set_cons_zero, List.set_cons_succ, List.map_cons, List.map_nil, List.all_cons, List.all_nil, List.elem_cons, List.elem_nil, Option.getD_some, Option.getD_none, Option.bind_some, Option.isNone_none, reduceIte, reduceCtorEq, Nat.reduceEqDiff, Nat.reduceAdd, Nat.reduceLeDiff, Nat.zero_add, Nat.add_zero, Nat.reduceBEq, Bool.and_self, Bool.and_true, Bool.true_and, Bool.or_self, Bool.or_false, Bool.false_or, Bool.or_true, Bool.true_or, true_and, and_true, and_self, implies_true, forall_const, Bool.false_eq_true, id_eq, retQ, resOf, resV, Option.some.injEq, exists_eq_left', AV.d.injEq, D.v.injEq, Value.bool.injEq, imp_self, bldF, bldS, toVals, eqLs, Option.map_some, imp_false, not_true_eq_false, not_false_eq_true, foot, wrs, nm, nmL, PG.reads, PG.dst, PO.reads, X.sl, sls, slB, List.append_nil, List.cons_append, List.nil_append, Option.toList_some, Option.toList_none, loopQ_exit, loopQ_ret, subS, subO, Bool.bne_false, Bool.bne_true, elemsOf, bslD, bslS, mentries, isAgV, asA, lputs, mgetD_set, mcmp_set, mput_set, List.headD_cons, sealS, sealO, sealV, sealL, mput_nil, mcmp_nil, midQ_ret, midQ_exit, sealsS, sealsO, runW_nil, runW_cons, Bool.true_bne, Bool.false_bne, bne_self_eq_false, Int.reduceToNat, bndV, oSl, resR, runS_nil, runS_gc, ren, renL, renO, sg, gBack]
  | simp only [f16r0, f16r1, f16r2, f16r3, f16r4, f16r5, f16r6, f16r7, f16r8, f16r9, f16r10, f16r11, f16r12, g1, f16k, List.length_map, runG_nil, runG_u, runG_g, runG_ucS, runG_gcS, runG_uvS, stp, avL, avS, evs, evX, lget, lput, strip, putO, PO.dst, updO, okR, cells, splice, AV.cell, toD, toDs, binV, sameK, pickV, guardOf, okL_nil, sides, argsOf, rawOf, dv, dvL, owns, ownsL, flat, flatL, lkeep, seqQ, blockQ, initS, List.drop_succ_cons, List.drop_zero, List.take_succ_cons, List.take_zero, List.getD_cons_zero, List.getD_cons_succ, List.length_cons, List.length_nil, List.set_cons_zero, List.set_cons_succ, List.map_cons, List.map_nil, List.all_cons, List.all_nil, List.elem_cons, List.elem_nil, Option.getD_some, Option.getD_none, Option.bind_some, Option.isNone_none, reduceIte, reduceCtorEq, Nat.reduceEqDiff, Nat.reduceAdd, Nat.reduceLeDiff, Nat.zero_add, Nat.add_zero, Nat.reduceBEq, Bool.and_self, Bool.and_true, Bool.true_and, Bool.or_self, Bool.or_false, Bool.false_or, Bool.or_true, Bool.true_or, true_and, and_true, and_self, implies_true, forall_const, Bool.false_eq_true, id_eq, retQ, resOf, resV, Option.some.injEq, exists_eq_left', AV.d.injEq, D.v.injEq, Value.bool.injEq, imp_self, bldF, bldS, toVals, eqLs, Option.map_some, imp_false, not_true_eq_false, not_false_eq_true, foot, wrs, nm, nmL, PG.reads, PG.dst, PO.reads, X.sl, sls, slB, List.append_nil, List.cons_append, List.nil_append, Option.toList_some, Option.toList_none, loopQ_exit, loopQ_ret, subS, subO, Bool.bne_false, Bool.bne_true, elemsOf, bslD, bslS, mentries, isAgV, asA, lputs, mgetD_set, mcmp_set, mput_set, List.headD_cons, sealS, sealO, sealV, sealL, mput_nil, mcmp_nil, midQ_ret, midQ_exit, sealsS, sealsO, runW_nil, runW_cons, Bool.true_bne, Bool.false_bne, bne_self_eq_false, Int.reduceToNat, bndV, oSl, resR, runS_nil, runS_gc, ren, renL, renO, sg, gBack]
  | simp only [f16r0, f16r1, f16r2, f16r3, f16r4, f16r5, f16r6, f16r7, f16r8, f16r9, f16r10, f16r11, f16r12, f16k, List.length_map, runG_nil, runG_u, runG_g, runG_ucS, runG_gcS, runG_uvS, stp, avL, avS, evs, evX, lget, lput, strip, putO, PO.dst, updO, okR, cells, splice, AV.cell, toD, toDs, binV, sameK, pickV, guardOf, okL_nil, sides, argsOf, rawOf, dv, dvL, owns, ownsL, flat, flatL, lkeep, seqQ, blockQ, initS, List.drop_succ_cons, List.drop_zero, List.take_succ_cons, List.take_zero, List.getD_cons_zero, List.getD_cons_succ, List.length_cons, List.length_nil, List.set_cons_zero, List.set_cons_succ, List.map_cons, List.map_nil, List.all_cons, List.all_nil, List.elem_cons, List.elem_nil, Option.getD_some, Option.getD_none, Option.bind_some, Option.isNone_none, reduceIte, reduceCtorEq, Nat.reduceEqDiff, Nat.reduceAdd, Nat.reduceLeDiff, Nat.zero_add, Nat.add_zero, Nat.reduceBEq, Bool.and_self, Bool.and_true, Bool.true_and, Bool.or_self, Bool.or_false, Bool.false_or, Bool.or_true, Bool.true_or, true_and, and_true, and_self, implies_true, forall_const, Bool.false_eq_true, id_eq, retQ, resOf, resV, Option.some.injEq, exists_eq_left', AV.d.injEq, D.v.injEq, Value.bool.injEq, imp_self, bldF, bldS, toVals, eqLs, Option.map_some, imp_false, not_true_eq_false, not_false_eq_true, foot, wrs, nm, nmL, PG.reads, PG.dst, PO.reads, X.sl, sls, slB, List.append_nil, List.cons_append, List.nil_append, Option.toList_some, Option.toList_none, loopQ_exit, loopQ_ret, subS, subO, Bool.bne_false, Bool.bne_true, elemsOf, bslD, bslS, mentries, isAgV, asA, lputs, mgetD_set, mcmp_set, mput_set, List.headD_cons, sealS, sealO, sealV, sealL, mput_nil, mcmp_nil, midQ_ret, midQ_exit, sealsS, sealsO, runW_nil, runW_cons, Bool.true_bne, Bool.false_bne, bne_self_eq_false, Int.reduceToNat, bndV, oSl, resR, runS_nil, runS_gc, ren, renL, renO, sg, gBack]
  all_goals try first
    | omega
    | (with_reducible rfl)
    | (show Value.int _ 0 = _; rfl)
    | (simp only [List.length_append, List.length_cons, List.length_nil]; omega)
    | (simp only [List.length_append, List.length_cons, List.length_nil, List.map_append, List.map_cons, List.map_nil]; done)
    | exact count64 he.2.2.2 (by omega)
    | (have ho := fix_out hc; simp [Net.offers, ho]; done)
    | (rw [offer_none hc]; rfl)
    | (rw [g3v.2.2.2]; done)
    | (have h0 := of_decide_eq_false hc; have h1 : (n.edges.getD k.toNat []).drop x.1 = [] := List.drop_eq_nil_of_le (by omega); rw [h1] at hx; rw [← hx.2.2]; simp; done)
    | (have h1 := hx.2.2; rw [he.1] at h1; rw [← h1]; simp; done)
    | (rw [hx.2.1]; done)
  all_goals trace_state
theorem lawOffers_fn (n : Net) (hn : n.small) (l : List Attr) (hl : l.length ≤ 1048576) (k : Int) : FnS Try.prog 17 [n.av, .d (.sl 4 (l.map Attr.row)), .d (.v (.int .i64 k))] (.d (.sl 4 ((n.offers l k).map Attr.row))) := by
  have hm : maxLen = 9223372036854775807 := rfl
  refine fn_of teok Try.func17 (by kernel_rfl) f17c f17k [.tmp 6] rfl (by show 3 ≤ 54; omega) ?_
  repeat' first
  | (with_reducible refine awp_mid (.reg f17r10) [] [(10, .box (offerV l e).box)] ?_ ?_)
  | with_reducible refine awp_seq ?_
  | with_reducible refine awp_block ?_
  | with_reducible refine awp_reg ?_
  | with_reducible refine awp_regD ?_
  | with_reducible refine awp_ret ?_
  | with_reducible refine awp_skip ?_
  | with_reducible refine awp_exit ?_
  | with_reducible refine normQ_of ?_
  | with_reducible refine wkE_of ?_
  | with_reducible refine midQ_of (Wk_sub rfl rfl ?_ ?_)
  | with_reducible refine runD_nil ?_
  | with_reducible refine runD_cons ?_
  | with_reducible refine runF_cons ?_
  | with_reducible refine runF_nil ?_
  | with_reducible refine KF_of ?_
  | with_reducible refine chkQ_of rfl ?_
  | with_reducible refine awp_cond (by simp only [evX, lget, Option.getD_some, reduceIte, Nat.reduceEqDiff]; rfl) (fun hc => ?_) (fun hc => ?_)
  | with_reducible refine CallU_of (f := 26) (take_fn e (hn.ok.edge _ (List.mem_of_getElem? (getD_mem n.edges [] hk.1 hk.2)) e (List.mem_of_getElem? he.2.2.1)) (l.getD e.src.toNat default)) (by first | exact Or.inr (Or.inl rfl) | exact Or.inl rfl) ?_
  | with_reducible refine CallC_of (f := 26) (fun _ => take_fn e (hn.ok.edge _ (List.mem_of_getElem? (getD_mem n.edges [] hk.1 hk.2)) e (List.mem_of_getElem? he.2.2.1)) (l.getD e.src.toNat default)) (by first | exact Or.inr (Or.inl rfl) | exact Or.inl rfl) ?_
  | (with_reducible assumption)
  | with_reducible refine fun (hG : okL _) => ?_
  | (with_reducible refine fun (hT : (_ : Bool) = _) => ?_)
  | (with_reducible first | exact hG.2 | exact hG.2.2 | exact hG.2.2.2 | exact hG.2.2.2.2)
  | with_reducible refine okL_mk ?_ ?_
  | with_reducible refine And.intro ?_ ?_
  | (have hk := fix_rng hc; have g1 := at_int esD n.edges [] hk.1 hk.2; replace hc : True := trivial)
  | (with_reducible refine awp_loopU (b := f17p7) (fun x : Nat × List Attr => x.1 ≤ (n.edges.getD k.toNat []).length ∧ x.2.length = x.1 ∧ x.2 ++ ((n.edges.getD k.toNat []).drop x.1).map (offerV l) = n.offers l k) (fun x => (n.edges.getD k.toNat []).length - x.1) (fun x => [(26, .d (.v (.int .i64 x.1))), (7, .own 51 x.2.length)]) (fun x => [(51, .row 45 4 x.2.length (x.2.map Attr.row))]) ((0, [])) (⟨Nat.zero_le _, rfl, by rw [Net.offers, if_neg (by omega)]; simp⟩) (Wk_nl 7 51 45 rfl rfl (by decide)) (Wk_sub rfl rfl ?_ ?_) (fun x hx => ?_))
  | (refine Exists.elim (at_drop Arc.row (n.edges.getD k.toNat []) x.1 (Int.ofNat_lt.1 (of_decide_eq_true hc))) (fun e he => ?_); have g2 := he.2.1; have hrow := hn.row _ (List.mem_of_getElem? (getD_mem n.edges [] hk.1 hk.2)); replace hc : True := trivial)
  | (have g3v := offer_row hc; have g3 := g3v.1; replace hc : True := trivial)
  | (with_reducible refine loopQ_next ((x.1 + 1, x.2 ++ [offerV l e])) ?_ ?_ (Wk_sub rfl rfl ?_ ?_))
  | simp only [f17r0, f17r1, f17r2, f17r3, f17r4, f17r5, f17r6, f17r7, f17r8, f17r9, f17r10, f17r11, f17r12, g3, g2, g1, f17k, List.length_map, runG_nil, runG_u, runG_g, runG_ucS, runG_gcS, runG_uvS, stp, avL, avS, evs, evX, lget, lput, strip, putO, PO.dst, updO, okR, cells, splice, AV.cell, toD, toDs, binV, sameK, pickV, guardOf, okL_nil, sides, argsOf, rawOf, dv, dvL, owns, ownsL, flat, flatL, lkeep, seqQ, blockQ, initS, List.drop_succ_cons, List.drop_zero, List.take_succ_cons, List.take_zero, List.getD_cons_zero, List.getD_cons_succ, List.length_cons, List.length_nil, List.set_cons_zero, List.set_cons_succ, List.map_cons, List.map_nil, List.all_cons, List.all_nil, List.elem_cons, List.elem_nil, Option.getD_some, Option.getD_none, Option.bind_some, Option.isNone_none, reduceIte, reduceCtorEq, Nat.reduceEqDiff, Nat.reduceAdd, Nat.reduceLeDiff, Nat.zero_add, Nat.add_zero, Nat.reduceBEq, Bool.and_self, Bool.and_true, Bool.true_and, Bool.or_self, Bool.or_false, Bool.false_or, Bool.or_true, Bool.true_or, true_and, and_true, and_self, implies_true, forall_const, Bool.false_eq_true, id_eq, retQ, resOf, resV, Option.some.injEq, exists_eq_left', AV.d.injEq, D.v.injEq, Value.bool.injEq, imp_self, bldF, bldS, toVals, eqLs, Option.map_some, imp_false, not_true_eq_false, not_false_eq_true, foot, wrs, nm, nmL, PG.reads, PG.dst, PO.reads, X.sl, sls, slB, List.append_nil, List.cons_append, List.nil_append, Option.toList_some, Option.toList_none, loopQ_exit, loopQ_ret, subS, subO, Bool.bne_false, Bool.bne_true, elemsOf, bslD, bslS, mentries, isAgV, asA, lputs, mgetD_set, mcmp_set, mput_set, List.headD_cons, sealS, sealO, sealV, sealL, mput_nil, mcmp_nil, midQ_ret, midQ_exit, sealsS, sealsO, runW_nil, runW_cons, Bool.true_bne, Bool.false_bne, bne_self_eq_false, Int.reduceToNat, bndV, oSl, resR, runS_nil, runS_gc, ren, renL, renO, sg, gBack]
  | simp only [f17r0, f17r1, f17r2, f17r3, f17r4, f17r5, f17r6, f17r7, f17r8, f17r9, f17r10, f17r11, f17r12, g2, g1, f17k, List.length_map, runG_nil, runG_u, runG_g, runG_ucS, runG_gcS, runG_uvS, stp, avL, avS, evs, evX, lget, lput, strip, putO, PO.dst, updO, okR, cells, splice, AV.cell, toD, toDs, binV, sameK, pickV, guardOf, okL_nil, sides, argsOf, rawOf, dv, dvL, owns, ownsL, flat, flatL, lkeep, seqQ, blockQ, initS, List.drop_succ_cons, List.drop_zero, List.take_succ_cons, List.take_zero, List.getD_cons_zero, List.getD_cons_succ, List.length_cons, List.length_nil, List.set_cons_zero, List.set_cons_succ, List.map_cons, List.map_nil, List.all_cons, List.all_nil, List.elem_cons, List.elem_nil, Option.getD_some, Option.getD_none, Option.bind_some, Option.isNone_none, reduceIte, reduceCtorEq, Nat.reduceEqDiff, Nat.reduceAdd, Nat.reduceLeDiff, Nat.zero_add, Nat.add_zero, Nat.reduceBEq, Bool.and_self, Bool.and_true, Bool.true_and, Bool.or_self, Bool.or_false, Bool.false_or, Bool.or_true, Bool.true_or, true_and, and_true, and_self, implies_true, forall_const, Bool.false_eq_true, id_eq, retQ, resOf, resV, Option.some.injEq, exists_eq_left', AV.d.injEq, D.v.injEq, Value.bool.injEq, imp_self, bldF, bldS, toVals, eqLs, Option.map_some, imp_false, not_true_eq_false, not_false_eq_true, foot, wrs, nm, nmL, PG.reads, PG.dst, PO.reads, X.sl, sls, slB, List.append_nil, List.cons_append, List.nil_append, Option.toList_some, Option.toList_none, loopQ_exit, loopQ_ret, subS, subO, Bool.bne_false, Bool.bne_true, elemsOf, bslD, bslS, mentries, isAgV, asA, lputs, mgetD_set, mcmp_set, mput_set, List.headD_cons, sealS, sealO, sealV, sealL, mput_nil, mcmp_nil, midQ_ret, midQ_exit, sealsS, sealsO, runW_nil, runW_cons, Bool.true_bne, Bool.false_bne, bne_self_eq_false, Int.reduceToNat, bndV, oSl, resR, runS_nil, runS_gc, ren, renL, renO, sg, gBack]
  | simp only [f17r0, f17r1, f17r2, f17r3, f17r4, f17r5, f17r6, f17r7, f17r8, f17r9, f17r10, f17r11, f17r12, g1, f17k, List.length_map, runG_nil, runG_u, runG_g, runG_ucS, runG_gcS, runG_uvS, stp, avL, avS, evs, evX, lget, lput, strip, putO, PO.dst, updO, okR, cells, splice, AV.cell, toD, toDs, binV, sameK, pickV, guardOf, okL_nil, sides, argsOf, rawOf, dv, dvL, owns, ownsL, flat, flatL, lkeep, seqQ, blockQ, initS, List.drop_succ_cons, List.drop_zero, List.take_succ_cons, List.take_zero, List.getD_cons_zero, List.getD_cons_succ, List.length_cons, List.length_nil, List.set_cons_zero, List.set_cons_succ, List.map_cons, List.map_nil, List.all_cons, List.all_nil, List.elem_cons, List.elem_nil, Option.getD_some, Option.getD_none, Option.bind_some, Option.isNone_none, reduceIte, reduceCtorEq, Nat.reduceEqDiff, Nat.reduceAdd, Nat.reduceLeDiff, Nat.zero_add, Nat.add_zero, Nat.reduceBEq, Bool.and_self, Bool.and_true, Bool.true_and, Bool.or_self, Bool.or_false, Bool.false_or, Bool.or_true, Bool.true_or, true_and, and_true, and_self, implies_true, forall_const, Bool.false_eq_true, id_eq, retQ, resOf, resV, Option.some.injEq, exists_eq_left', AV.d.injEq, D.v.injEq, Value.bool.injEq, imp_self, bldF, bldS, toVals, eqLs, Option.map_some, imp_false, not_true_eq_false, not_false_eq_true, foot, wrs, nm, nmL, PG.reads, PG.dst, PO.reads, X.sl, sls, slB, List.append_nil, List.cons_append, List.nil_append, Option.toList_some, Option.toList_none, loopQ_exit, loopQ_ret, subS, subO, Bool.bne_false, Bool.bne_true, elemsOf, bslD, bslS, mentries, isAgV, asA, lputs, mgetD_set, mcmp_set, mput_set, List.headD_cons, sealS, sealO, sealV, sealL, mput_nil, mcmp_nil, midQ_ret, midQ_exit, sealsS, sealsO, runW_nil, runW_cons, Bool.true_bne, Bool.false_bne, bne_self_eq_false, Int.reduceToNat, bndV, oSl, resR, runS_nil, runS_gc, ren, renL, renO, sg, gBack]
  | simp only [f17r0, f17r1, f17r2, f17r3, f17r4, f17r5, f17r6, f17r7, f17r8, f17r9, f17r10, f17r11, f17r12, f17k, List.length_map, runG_nil, runG_u, runG_g, runG_ucS, runG_gcS, runG_uvS, stp, avL, avS, evs, evX, lget, lput, strip, putO, PO.dst, updO, okR, cells, splice, AV.cell, toD, toDs, binV, sameK, pickV, guardOf, okL_nil, sides, argsOf, rawOf, dv, dvL, owns, ownsL, flat, flatL, lkeep, seqQ, blockQ, initS, List.drop_succ_cons, List.drop_zero, List.take_succ_cons, List.take_zero, List.getD_cons_zero, List.getD_cons_succ, List.length_cons, List.length_nil, List.set_cons_zero, List.set_cons_succ, List.map_cons, List.map_nil, List.all_cons, List.all_nil, List.elem_cons, List.elem_nil, Option.getD_some, Option.getD_none, Option.bind_some, Option.isNone_none, reduceIte, reduceCtorEq, Nat.reduceEqDiff, Nat.reduceAdd, Nat.reduceLeDiff, Nat.zero_add, Nat.add_zero, Nat.reduceBEq, Bool.and_self, Bool.and_true, Bool.true_and, Bool.or_self, Bool.or_false, Bool.false_or, Bool.or_true, Bool.true_or, true_and, and_true, and_self, implies_true, forall_const, Bool.false_eq_true, id_eq, retQ, resOf, resV, Option.some.injEq, exists_eq_left', AV.d.injEq, D.v.injEq, Value.bool.injEq, imp_self, bldF, bldS, toVals, eqLs, Option.map_some, imp_false, not_true_eq_false, not_false_eq_true, foot, wrs, nm, nmL, PG.reads, PG.dst, PO.reads, X.sl, sls, slB, List.append_nil, List.cons_append, List.nil_append, Option.toList_some, Option.toList_none, loopQ_exit, loopQ_ret, subS, subO, Bool.bne_false, Bool.bne_true, elemsOf, bslD, bslS, mentries, isAgV, asA, lputs, mgetD_set, mcmp_set, mput_set, List.headD_cons, sealS, sealO, sealV, sealL, mput_nil, mcmp_nil, midQ_ret, midQ_exit, sealsS, sealsO, runW_nil, runW_cons, Bool.true_bne, Bool.false_bne, bne_self_eq_false, Int.reduceToNat, bndV, oSl, resR, runS_nil, runS_gc, ren, renL, renO, sg, gBack]
  all_goals try first
    | omega
    | (with_reducible rfl)
    | (show Value.int _ 0 = _; rfl)
    | (simp only [List.length_append, List.length_cons, List.length_nil]; omega)
    | (simp only [List.length_append, List.length_cons, List.length_nil, List.map_append, List.map_cons, List.map_nil]; done)
    | exact count64 he.2.2.2 (by omega)
    | (have ho := fix_out hc; simp [Net.offers, ho]; done)
    | (rw [offer_none hc]; rfl)
    | (rw [g3v.2.2.2]; done)
    | (have h0 := of_decide_eq_false hc; have h1 : (n.edges.getD k.toNat []).drop x.1 = [] := List.drop_eq_nil_of_le (by omega); rw [h1] at hx; rw [← hx.2.2]; simp; done)
    | (have h1 := hx.2.2; rw [he.1] at h1; rw [← h1]; simp; done)
    | (rw [hx.2.1]; done)
  all_goals trace_state
theorem gd_o {n : Net} {k : Int} (h : 0 ≤ k ∧ k < n.origin.length) : AV.d (((n.origin.map bD).getD k.toNat []).getD 0 (.v undef)) = .d (.v (.bool (n.origin.getD k.toNat false))) := by rw [at_int bD n.origin false h.1 h.2]; rfl
theorem gd_s {n : Net} {k : Int} (h : 0 ≤ k ∧ k < n.static.length) : AV.d (((n.static.map iD).getD k.toNat []).getD 0 (.v undef)) = .d (.v (.int .i64 (n.static.getD k.toNat 0))) := by rw [at_int iD n.static 0 h.1 h.2]; rfl
theorem fixed_fn (n : Net) (k : Int) : FnS Try.prog 18 [n.av, .d (.v (.int .i64 k))] (.d (.v (.bool (n.fixed k)))) := by
  refine fn_of teok Try.func18 (by kernel_rfl) f18c f18k [.tmp 4] rfl (by show 2 ≤ 36; omega) ?_
  repeat' first
  | (with_reducible refine awp_cut (l := f18r1) [(15, [1019]), (12, [1031])] ?_; unfold f18r1)
  | (with_reducible refine wkE_gd (ns := [1019]) 19 (.d (.v (.bool (n.origin.getD k.toNat false)))) rfl (fun hG => gd_o ?_) ?_)
  | (with_reducible refine wkE_gd (ns := [1031]) 31 (.d (.v (.int .i64 (n.static.getD k.toNat 0)))) rfl (fun hG => gd_s ?_) ?_)
  | with_reducible refine awp_seq ?_
  | with_reducible refine awp_block ?_
  | with_reducible refine awp_reg ?_
  | with_reducible refine awp_regD ?_
  | with_reducible refine awp_ret ?_
  | with_reducible refine awp_skip ?_
  | with_reducible refine awp_exit ?_
  | with_reducible refine normQ_of ?_
  | with_reducible refine wkE_of ?_
  | with_reducible refine midQ_of (Wk_sub rfl rfl ?_ ?_)
  | with_reducible refine runD_nil ?_
  | with_reducible refine runD_cons ?_
  | with_reducible refine runF_cons ?_
  | with_reducible refine runF_nil ?_
  | with_reducible refine KF_of ?_
  | with_reducible refine chkQ_of rfl ?_
  | with_reducible refine awp_cond (by simp only [evX, lget, Option.getD_some, reduceIte, Nat.reduceEqDiff]; rfl) (fun hc => ?_) (fun hc => ?_)
  | (with_reducible assumption)
  | with_reducible refine fun (hG : okL _) => ?_
  | (with_reducible refine fun (hT : (_ : Bool) = _) => ?_)
  | (with_reducible first | exact hG.2 | exact hG.2.2 | exact hG.2.2.2 | exact hG.2.2.2.2)
  | with_reducible refine okL_mk ?_ ?_
  | with_reducible refine And.intro ?_ ?_
  | simp only [f18r0, f18k, List.length_map, runG_nil, runG_u, runG_g, runG_ucS, runG_gcS, runG_uvS, stp, avL, avS, evs, evX, lget, lput, strip, putO, PO.dst, updO, okR, cells, splice, AV.cell, toD, toDs, binV, sameK, pickV, guardOf, okL_nil, sides, argsOf, rawOf, dv, dvL, owns, ownsL, flat, flatL, lkeep, seqQ, blockQ, initS, List.drop_succ_cons, List.drop_zero, List.take_succ_cons, List.take_zero, List.getD_cons_zero, List.getD_cons_succ, List.length_cons, List.length_nil, List.set_cons_zero, List.set_cons_succ, List.map_cons, List.map_nil, List.all_cons, List.all_nil, List.elem_cons, List.elem_nil, Option.getD_some, Option.getD_none, Option.bind_some, Option.isNone_none, reduceIte, reduceCtorEq, Nat.reduceEqDiff, Nat.reduceAdd, Nat.reduceLeDiff, Nat.zero_add, Nat.add_zero, Nat.reduceBEq, Bool.and_self, Bool.and_true, Bool.true_and, Bool.or_self, Bool.or_false, Bool.false_or, Bool.or_true, Bool.true_or, true_and, and_true, and_self, implies_true, forall_const, Bool.false_eq_true, id_eq, retQ, resOf, resV, Option.some.injEq, exists_eq_left', AV.d.injEq, D.v.injEq, Value.bool.injEq, imp_self, bldF, bldS, toVals, eqLs, Option.map_some, imp_false, not_true_eq_false, not_false_eq_true, foot, wrs, nm, nmL, PG.reads, PG.dst, PO.reads, X.sl, sls, slB, List.append_nil, List.cons_append, List.nil_append, Option.toList_some, Option.toList_none, loopQ_exit, loopQ_ret, subS, subO, Bool.bne_false, Bool.bne_true, elemsOf, bslD, bslS, mentries, isAgV, asA, lputs, mgetD_set, mcmp_set, mput_set, List.headD_cons, sealS, sealO, sealV, sealL, mput_nil, mcmp_nil, midQ_ret, midQ_exit, sealsS, sealsO, runW_nil, runW_cons, Bool.true_bne, Bool.false_bne, bne_self_eq_false, Int.reduceToNat, bndV, oSl, resR, runS_nil, runS_gc, ren, renL, renO, sg, gBack]
  all_goals try first
    | (simp [okL] at hG; omega)
    | (simp [okL] at hG; rw [at_int bD n.origin false (by omega) (by omega)]; exact Nat.le_refl _)
    | (simp [okL] at hG; rw [at_int iD n.static 0 (by omega) (by omega)]; exact Nat.le_refl _)
    | (grind [Net.fixed])
  all_goals trace_state
theorem lawFixed_fn (n : Net) (k : Int) : FnS Try.prog 19 [n.av, .d (.v (.int .i64 k))] (.d (.v (.bool (n.fixed k)))) := by
  refine fn_of teok Try.func19 (by kernel_rfl) f19c f19k [.tmp 4] rfl (by show 2 ≤ 34; omega) ?_
  repeat' first
  | (with_reducible refine awp_cut (l := f19r3) [(17, [1030])] ?_; unfold f19r3)
  | (with_reducible refine wkE_gd (ns := [1030]) 30 (.d (.v (.int .i64 (n.static.getD k.toNat 0)))) rfl (fun hG => gd_s ?_) ?_)
  | with_reducible refine awp_seq ?_
  | with_reducible refine awp_block ?_
  | with_reducible refine awp_reg ?_
  | with_reducible refine awp_regD ?_
  | with_reducible refine awp_ret ?_
  | with_reducible refine awp_skip ?_
  | with_reducible refine awp_exit ?_
  | with_reducible refine normQ_of ?_
  | with_reducible refine wkE_of ?_
  | with_reducible refine midQ_of (Wk_sub rfl rfl ?_ ?_)
  | with_reducible refine runD_nil ?_
  | with_reducible refine runD_cons ?_
  | with_reducible refine runF_cons ?_
  | with_reducible refine runF_nil ?_
  | with_reducible refine KF_of ?_
  | with_reducible refine chkQ_of rfl ?_
  | with_reducible refine awp_cond (by simp only [evX, lget, Option.getD_some, reduceIte, Nat.reduceEqDiff]; rfl) (fun hc => ?_) (fun hc => ?_)
  | (with_reducible assumption)
  | with_reducible refine fun (hG : okL _) => ?_
  | (with_reducible refine fun (hT : (_ : Bool) = _) => ?_)
  | (with_reducible first | exact hG.2 | exact hG.2.2 | exact hG.2.2.2 | exact hG.2.2.2.2)
  | with_reducible refine okL_mk ?_ ?_
  | with_reducible refine And.intro ?_ ?_
  | (have hk := fix_rng hc; have g1 := at_int bD n.origin false hk.1 hk.2; replace hc : True := trivial)
  | simp only [f19r0, f19r1, f19r2, g1, f19k, List.length_map, runG_nil, runG_u, runG_g, runG_ucS, runG_gcS, runG_uvS, stp, avL, avS, evs, evX, lget, lput, strip, putO, PO.dst, updO, okR, cells, splice, AV.cell, toD, toDs, binV, sameK, pickV, guardOf, okL_nil, sides, argsOf, rawOf, dv, dvL, owns, ownsL, flat, flatL, lkeep, seqQ, blockQ, initS, List.drop_succ_cons, List.drop_zero, List.take_succ_cons, List.take_zero, List.getD_cons_zero, List.getD_cons_succ, List.length_cons, List.length_nil, List.set_cons_zero, List.set_cons_succ, List.map_cons, List.map_nil, List.all_cons, List.all_nil, List.elem_cons, List.elem_nil, Option.getD_some, Option.getD_none, Option.bind_some, Option.isNone_none, reduceIte, reduceCtorEq, Nat.reduceEqDiff, Nat.reduceAdd, Nat.reduceLeDiff, Nat.zero_add, Nat.add_zero, Nat.reduceBEq, Bool.and_self, Bool.and_true, Bool.true_and, Bool.or_self, Bool.or_false, Bool.false_or, Bool.or_true, Bool.true_or, true_and, and_true, and_self, implies_true, forall_const, Bool.false_eq_true, id_eq, retQ, resOf, resV, Option.some.injEq, exists_eq_left', AV.d.injEq, D.v.injEq, Value.bool.injEq, imp_self, bldF, bldS, toVals, eqLs, Option.map_some, imp_false, not_true_eq_false, not_false_eq_true, foot, wrs, nm, nmL, PG.reads, PG.dst, PO.reads, X.sl, sls, slB, List.append_nil, List.cons_append, List.nil_append, Option.toList_some, Option.toList_none, loopQ_exit, loopQ_ret, subS, subO, Bool.bne_false, Bool.bne_true, elemsOf, bslD, bslS, mentries, isAgV, asA, lputs, mgetD_set, mcmp_set, mput_set, List.headD_cons, sealS, sealO, sealV, sealL, mput_nil, mcmp_nil, midQ_ret, midQ_exit, sealsS, sealsO, runW_nil, runW_cons, Bool.true_bne, Bool.false_bne, bne_self_eq_false, Int.reduceToNat, bndV, oSl, resR, runS_nil, runS_gc, ren, renL, renO, sg, gBack]
  | simp only [f19r0, f19r1, f19r2, f19k, List.length_map, runG_nil, runG_u, runG_g, runG_ucS, runG_gcS, runG_uvS, stp, avL, avS, evs, evX, lget, lput, strip, putO, PO.dst, updO, okR, cells, splice, AV.cell, toD, toDs, binV, sameK, pickV, guardOf, okL_nil, sides, argsOf, rawOf, dv, dvL, owns, ownsL, flat, flatL, lkeep, seqQ, blockQ, initS, List.drop_succ_cons, List.drop_zero, List.take_succ_cons, List.take_zero, List.getD_cons_zero, List.getD_cons_succ, List.length_cons, List.length_nil, List.set_cons_zero, List.set_cons_succ, List.map_cons, List.map_nil, List.all_cons, List.all_nil, List.elem_cons, List.elem_nil, Option.getD_some, Option.getD_none, Option.bind_some, Option.isNone_none, reduceIte, reduceCtorEq, Nat.reduceEqDiff, Nat.reduceAdd, Nat.reduceLeDiff, Nat.zero_add, Nat.add_zero, Nat.reduceBEq, Bool.and_self, Bool.and_true, Bool.true_and, Bool.or_self, Bool.or_false, Bool.false_or, Bool.or_true, Bool.true_or, true_and, and_true, and_self, implies_true, forall_const, Bool.false_eq_true, id_eq, retQ, resOf, resV, Option.some.injEq, exists_eq_left', AV.d.injEq, D.v.injEq, Value.bool.injEq, imp_self, bldF, bldS, toVals, eqLs, Option.map_some, imp_false, not_true_eq_false, not_false_eq_true, foot, wrs, nm, nmL, PG.reads, PG.dst, PO.reads, X.sl, sls, slB, List.append_nil, List.cons_append, List.nil_append, Option.toList_some, Option.toList_none, loopQ_exit, loopQ_ret, subS, subO, Bool.bne_false, Bool.bne_true, elemsOf, bslD, bslS, mentries, isAgV, asA, lputs, mgetD_set, mcmp_set, mput_set, List.headD_cons, sealS, sealO, sealV, sealL, mput_nil, mcmp_nil, midQ_ret, midQ_exit, sealsS, sealsO, runW_nil, runW_cons, Bool.true_bne, Bool.false_bne, bne_self_eq_false, Int.reduceToNat, bndV, oSl, resR, runS_nil, runS_gc, ren, renL, renO, sg, gBack]
  all_goals try first
    | omega
    | (simp [okL] at hG; omega)
    | (simp [okL] at hG; rw [at_int iD n.static 0 (by omega) (by omega)]; exact Nat.le_refl _)
    | (have ho := fix_out hc; simp [Net.fixed]; omega)
    | (grind [Net.fixed])
  all_goals trace_state
theorem choice_fn (n : Net) (hn : n.small) (l : List Attr) (hl : l.length ≤ 1048576) (k : Int) : FnS Try.prog 21 [n.av, .d (.sl 4 (l.map Attr.row)), .d (.v (.int .i64 k))] (n.choice l k).av := by
  have hm : maxLen = 9223372036854775807 := rfl
  refine fn_of teok Try.func21 (by kernel_rfl) f21c f21k [.cell 6 45] rfl (by show 3 ≤ 16; omega) ?_
  repeat' first
  | with_reducible refine awp_seq ?_
  | with_reducible refine awp_block ?_
  | with_reducible refine awp_reg ?_
  | with_reducible refine awp_regD ?_
  | with_reducible refine awp_ret ?_
  | with_reducible refine awp_skip ?_
  | with_reducible refine awp_exit ?_
  | with_reducible refine normQ_of ?_
  | with_reducible refine wkE_of ?_
  | with_reducible refine midQ_of (Wk_sub rfl rfl ?_ ?_)
  | with_reducible refine runD_nil ?_
  | with_reducible refine runD_cons ?_
  | with_reducible refine runF_cons ?_
  | with_reducible refine runF_nil ?_
  | with_reducible refine KF_of ?_
  | with_reducible refine chkQ_of rfl ?_
  | with_reducible refine awp_cond (by simp only [evX, lget, Option.getD_some, reduceIte, Nat.reduceEqDiff]; rfl) (fun hc => ?_) (fun hc => ?_)
  | with_reducible refine CallU_of (f := 18) (fixed_fn n k) (by first | exact Or.inr (Or.inl rfl) | exact Or.inl rfl) ?_
  | with_reducible refine CallC_of (f := 18) (fun _ => fixed_fn n k) (by first | exact Or.inr (Or.inl rfl) | exact Or.inl rfl) ?_
  | with_reducible refine CallU_of (f := 25) (origin_fn) (by first | exact Or.inr (Or.inl rfl) | exact Or.inl rfl) ?_
  | with_reducible refine CallC_of (f := 25) (fun _ => origin_fn) (by first | exact Or.inr (Or.inl rfl) | exact Or.inl rfl) ?_
  | with_reducible refine CallU_of (f := 16) (offers_fn n hn l hl k) (by first | exact Or.inr (Or.inl rfl) | exact Or.inl rfl) ?_
  | with_reducible refine CallC_of (f := 16) (fun _ => offers_fn n hn l hl k) (by first | exact Or.inr (Or.inl rfl) | exact Or.inl rfl) ?_
  | with_reducible refine CallU_of (f := 40) (best_fn (n.offers l k) (by have := Net.offers_len hn l k; omega)) (by first | exact Or.inr (Or.inl rfl) | exact Or.inl rfl) ?_
  | with_reducible refine CallC_of (f := 40) (fun _ => best_fn (n.offers l k) (by have := Net.offers_len hn l k; omega)) (by first | exact Or.inr (Or.inl rfl) | exact Or.inl rfl) ?_
  | (with_reducible assumption)
  | with_reducible refine fun (hG : okL _) => ?_
  | (with_reducible refine fun (hT : (_ : Bool) = _) => ?_)
  | (with_reducible first | exact hG.2 | exact hG.2.2 | exact hG.2.2.2 | exact hG.2.2.2.2)
  | with_reducible refine okL_mk ?_ ?_
  | with_reducible refine And.intro ?_ ?_
  | simp only [f21r0, f21r1, f21r2, f21r3, f21k, te45, List.length_map, runG_nil, runG_u, runG_g, runG_ucS, runG_gcS, runG_uvS, stp, avL, avS, evs, evX, lget, lput, strip, putO, PO.dst, updO, okR, cells, splice, AV.cell, toD, toDs, binV, sameK, pickV, guardOf, okL_nil, sides, argsOf, rawOf, dv, dvL, owns, ownsL, flat, flatL, lkeep, seqQ, blockQ, initS, List.drop_succ_cons, List.drop_zero, List.take_succ_cons, List.take_zero, List.getD_cons_zero, List.getD_cons_succ, List.length_cons, List.length_nil, List.set_cons_zero, List.set_cons_succ, List.map_cons, List.map_nil, List.all_cons, List.all_nil, List.elem_cons, List.elem_nil, Option.getD_some, Option.getD_none, Option.bind_some, Option.isNone_none, reduceIte, reduceCtorEq, Nat.reduceEqDiff, Nat.reduceAdd, Nat.reduceLeDiff, Nat.zero_add, Nat.add_zero, Nat.reduceBEq, Bool.and_self, Bool.and_true, Bool.true_and, Bool.or_self, Bool.or_false, Bool.false_or, Bool.or_true, Bool.true_or, true_and, and_true, and_self, implies_true, forall_const, Bool.false_eq_true, id_eq, retQ, resOf, resV, Option.some.injEq, exists_eq_left', AV.d.injEq, D.v.injEq, Value.bool.injEq, imp_self, bldF, bldS, toVals, eqLs, Option.map_some, imp_false, not_true_eq_false, not_false_eq_true, foot, wrs, nm, nmL, PG.reads, PG.dst, PO.reads, X.sl, sls, slB, List.append_nil, List.cons_append, List.nil_append, Option.toList_some, Option.toList_none, loopQ_exit, loopQ_ret, subS, subO, Bool.bne_false, Bool.bne_true, elemsOf, bslD, bslS, mentries, isAgV, asA, lputs, mgetD_set, mcmp_set, mput_set, List.headD_cons, sealS, sealO, sealV, sealL, mput_nil, mcmp_nil, midQ_ret, midQ_exit, sealsS, sealsO, runW_nil, runW_cons, Bool.true_bne, Bool.false_bne, bne_self_eq_false, Int.reduceToNat, bndV, oSl, resR, runS_nil, runS_gc, ren, renL, renO, sg, gBack]
  all_goals try first
    | (simp only [Net.choice, hc, reduceIte]; done)
    | (simp only [Net.choice, hc, Bool.false_eq_true, reduceIte]; done)
  all_goals trace_state
theorem lawChoice_fn (n : Net) (hn : n.small) (l : List Attr) (hl : l.length ≤ 1048576) (k : Int) : FnS Try.prog 22 [n.av, .d (.sl 4 (l.map Attr.row)), .d (.v (.int .i64 k))] (n.choice l k).av := by
  have hm : maxLen = 9223372036854775807 := rfl
  have hlen := Net.offers_len hn l k
  refine fn_of teok Try.func22 (by kernel_rfl) f22c f22k [.cell 6 45] rfl (by show 3 ≤ 29; omega) ?_
  repeat' first
  | with_reducible refine awp_seq ?_
  | with_reducible refine awp_block ?_
  | with_reducible refine awp_reg ?_
  | with_reducible refine awp_regD ?_
  | with_reducible refine awp_ret ?_
  | with_reducible refine awp_skip ?_
  | with_reducible refine awp_exit ?_
  | with_reducible refine normQ_of ?_
  | with_reducible refine wkE_of ?_
  | with_reducible refine midQ_of (Wk_sub rfl rfl ?_ ?_)
  | with_reducible refine runD_nil ?_
  | with_reducible refine runD_cons ?_
  | with_reducible refine runF_cons ?_
  | with_reducible refine runF_nil ?_
  | with_reducible refine KF_of ?_
  | with_reducible refine chkQ_of rfl ?_
  | with_reducible refine awp_cond (by simp only [evX, lget, Option.getD_some, reduceIte, Nat.reduceEqDiff]; rfl) (fun hc => ?_) (fun hc => ?_)
  | with_reducible refine CallU_of (f := 19) (lawFixed_fn n k) (by first | exact Or.inr (Or.inl rfl) | exact Or.inl rfl) ?_
  | with_reducible refine CallC_of (f := 19) (fun _ => lawFixed_fn n k) (by first | exact Or.inr (Or.inl rfl) | exact Or.inl rfl) ?_
  | with_reducible refine CallU_of (f := 17) (lawOffers_fn n hn l hl k) (by first | exact Or.inr (Or.inl rfl) | exact Or.inl rfl) ?_
  | with_reducible refine CallC_of (f := 17) (fun _ => lawOffers_fn n hn l hl k) (by first | exact Or.inr (Or.inl rfl) | exact Or.inl rfl) ?_
  | with_reducible refine CallU_of (f := 41) (better_fn a x.2) (by first | exact Or.inr (Or.inl rfl) | exact Or.inl rfl) ?_
  | with_reducible refine CallC_of (f := 41) (fun _ => better_fn a x.2) (by first | exact Or.inr (Or.inl rfl) | exact Or.inl rfl) ?_
  | (with_reducible assumption)
  | with_reducible refine fun (hG : okL _) => ?_
  | (with_reducible refine fun (hT : (_ : Bool) = _) => ?_)
  | (with_reducible first | exact hG.2 | exact hG.2.2 | exact hG.2.2.2 | exact hG.2.2.2.2)
  | with_reducible refine okL_mk ?_ ?_
  | with_reducible refine And.intro ?_ ?_
  | (with_reducible refine awp_loopU (b := f22p6) (fun x : Nat × Attr => x.1 ≤ (n.offers l k).length ∧ n.fixed k = false ∧ bestGo x.2 ((n.offers l k).drop x.1) = bestGo attr0 (n.offers l k)) (fun x => (n.offers l k).length - x.1) (fun x => [(19, .d (.v (.int .i64 x.1)))]) (fun x => [(7, .box x.2.box)]) ((0, attr0)) (⟨Nat.zero_le _, hc, rfl⟩) (Wk.refl _ _) (Wk_sub rfl rfl ?_ ?_) (fun x hx => ?_))
  | (refine Exists.elim (at_drop Attr.row (n.offers l k) x.1 (Int.ofNat_lt.1 (of_decide_eq_true hc))) (fun a he => ?_); have g1 := he.2.1; replace hc : True := trivial)
  | (have _q : (_ : Bool) = true := hc; with_reducible refine loopQ_next ((x.1 + 1, a)) ?_ ?_ (Wk_sub rfl rfl ?_ ?_))
  | (have _q : (_ : Bool) = false := hc; with_reducible refine loopQ_next ((x.1 + 1, x.2)) ?_ ?_ (Wk_sub rfl rfl ?_ ?_))
  | simp only [f22r0, f22r1, f22r2, f22r3, f22r4, f22r5, f22r6, f22r7, f22r8, f22r9, f22r10, g1, f22k, te45, List.length_map, runG_nil, runG_u, runG_g, runG_ucS, runG_gcS, runG_uvS, stp, avL, avS, evs, evX, lget, lput, strip, putO, PO.dst, updO, okR, cells, splice, AV.cell, toD, toDs, binV, sameK, pickV, guardOf, okL_nil, sides, argsOf, rawOf, dv, dvL, owns, ownsL, flat, flatL, lkeep, seqQ, blockQ, initS, List.drop_succ_cons, List.drop_zero, List.take_succ_cons, List.take_zero, List.getD_cons_zero, List.getD_cons_succ, List.length_cons, List.length_nil, List.set_cons_zero, List.set_cons_succ, List.map_cons, List.map_nil, List.all_cons, List.all_nil, List.elem_cons, List.elem_nil, Option.getD_some, Option.getD_none, Option.bind_some, Option.isNone_none, reduceIte, reduceCtorEq, Nat.reduceEqDiff, Nat.reduceAdd, Nat.reduceLeDiff, Nat.zero_add, Nat.add_zero, Nat.reduceBEq, Bool.and_self, Bool.and_true, Bool.true_and, Bool.or_self, Bool.or_false, Bool.false_or, Bool.or_true, Bool.true_or, true_and, and_true, and_self, implies_true, forall_const, Bool.false_eq_true, id_eq, retQ, resOf, resV, Option.some.injEq, exists_eq_left', AV.d.injEq, D.v.injEq, Value.bool.injEq, imp_self, bldF, bldS, toVals, eqLs, Option.map_some, imp_false, not_true_eq_false, not_false_eq_true, foot, wrs, nm, nmL, PG.reads, PG.dst, PO.reads, X.sl, sls, slB, List.append_nil, List.cons_append, List.nil_append, Option.toList_some, Option.toList_none, loopQ_exit, loopQ_ret, subS, subO, Bool.bne_false, Bool.bne_true, elemsOf, bslD, bslS, mentries, isAgV, asA, lputs, mgetD_set, mcmp_set, mput_set, List.headD_cons, sealS, sealO, sealV, sealL, mput_nil, mcmp_nil, midQ_ret, midQ_exit, sealsS, sealsO, runW_nil, runW_cons, Bool.true_bne, Bool.false_bne, bne_self_eq_false, Int.reduceToNat, bndV, oSl, resR, runS_nil, runS_gc, ren, renL, renO, sg, gBack]
  | simp only [f22r0, f22r1, f22r2, f22r3, f22r4, f22r5, f22r6, f22r7, f22r8, f22r9, f22r10, f22k, te45, List.length_map, runG_nil, runG_u, runG_g, runG_ucS, runG_gcS, runG_uvS, stp, avL, avS, evs, evX, lget, lput, strip, putO, PO.dst, updO, okR, cells, splice, AV.cell, toD, toDs, binV, sameK, pickV, guardOf, okL_nil, sides, argsOf, rawOf, dv, dvL, owns, ownsL, flat, flatL, lkeep, seqQ, blockQ, initS, List.drop_succ_cons, List.drop_zero, List.take_succ_cons, List.take_zero, List.getD_cons_zero, List.getD_cons_succ, List.length_cons, List.length_nil, List.set_cons_zero, List.set_cons_succ, List.map_cons, List.map_nil, List.all_cons, List.all_nil, List.elem_cons, List.elem_nil, Option.getD_some, Option.getD_none, Option.bind_some, Option.isNone_none, reduceIte, reduceCtorEq, Nat.reduceEqDiff, Nat.reduceAdd, Nat.reduceLeDiff, Nat.zero_add, Nat.add_zero, Nat.reduceBEq, Bool.and_self, Bool.and_true, Bool.true_and, Bool.or_self, Bool.or_false, Bool.false_or, Bool.or_true, Bool.true_or, true_and, and_true, and_self, implies_true, forall_const, Bool.false_eq_true, id_eq, retQ, resOf, resV, Option.some.injEq, exists_eq_left', AV.d.injEq, D.v.injEq, Value.bool.injEq, imp_self, bldF, bldS, toVals, eqLs, Option.map_some, imp_false, not_true_eq_false, not_false_eq_true, foot, wrs, nm, nmL, PG.reads, PG.dst, PO.reads, X.sl, sls, slB, List.append_nil, List.cons_append, List.nil_append, Option.toList_some, Option.toList_none, loopQ_exit, loopQ_ret, subS, subO, Bool.bne_false, Bool.bne_true, elemsOf, bslD, bslS, mentries, isAgV, asA, lputs, mgetD_set, mcmp_set, mput_set, List.headD_cons, sealS, sealO, sealV, sealL, mput_nil, mcmp_nil, midQ_ret, midQ_exit, sealsS, sealsO, runW_nil, runW_cons, Bool.true_bne, Bool.false_bne, bne_self_eq_false, Int.reduceToNat, bndV, oSl, resR, runS_nil, runS_gc, ren, renL, renO, sg, gBack]
  all_goals try first
    | omega
    | (with_reducible rfl)
    | (show Value.int _ 0 = _; rfl)
    | (simp only [List.length_append, List.length_cons, List.length_nil]; omega)
    | (simp only [List.length_append, List.length_cons, List.length_nil, List.map_append, List.map_cons, List.map_nil]; done)
    | exact count64 he.2.2.2 (by omega)
    | (simp only [Net.choice, hc, reduceIte]; rfl)
    | (have h1 := hx.2.2; rw [he.1, bestGo, hc] at h1; simpa using h1)
    | (have h0 := of_decide_eq_false hc; have h1 := hx.2.2; rw [List.drop_eq_nil_of_le (by omega), bestGo] at h1; simp only [Net.choice, hx.2.1, Bool.false_eq_true, reduceIte, bestV, ← h1]; done)
    | rfl
  all_goals trace_state
theorem is_fn (n : Net) (hn : n.small) (l : List Attr) (hl : l.length ≤ 1048576) : FnS Try.prog 24 [n.av, .d (.sl 4 (l.map Attr.row))] (.d (.v (.bool (n.isV l)))) := by
  have hm : maxLen = 9223372036854775807 := rfl
  refine fn_of teok Try.func24 (by kernel_rfl) f24c f24k [.tmp 4] rfl (by show 2 ≤ 28; omega) ?_
  repeat' first
  | with_reducible refine awp_seq ?_
  | with_reducible refine awp_block ?_
  | with_reducible refine awp_reg ?_
  | with_reducible refine awp_regD ?_
  | with_reducible refine awp_ret ?_
  | with_reducible refine awp_skip ?_
  | with_reducible refine awp_exit ?_
  | with_reducible refine normQ_of ?_
  | with_reducible refine wkE_of ?_
  | with_reducible refine midQ_of (Wk_sub rfl rfl ?_ ?_)
  | with_reducible refine runD_nil ?_
  | with_reducible refine runD_cons ?_
  | with_reducible refine runF_cons ?_
  | with_reducible refine runF_nil ?_
  | with_reducible refine KF_of ?_
  | with_reducible refine chkQ_of rfl ?_
  | with_reducible refine awp_cond (by simp only [evX, lget, Option.getD_some, reduceIte, Nat.reduceEqDiff]; rfl) (fun hc => ?_) (fun hc => ?_)
  | with_reducible refine CallU_of (f := 21) (choice_fn n hn l hl _) (by first | exact Or.inr (Or.inl rfl) | exact Or.inl rfl) ?_
  | with_reducible refine CallC_of (f := 21) (fun _ => choice_fn n hn l hl _) (by first | exact Or.inr (Or.inl rfl) | exact Or.inl rfl) ?_
  | with_reducible refine CallU_of (f := 20) (same_fn a (n.choice l i)) (by first | exact Or.inr (Or.inl rfl) | exact Or.inl rfl) ?_
  | with_reducible refine CallC_of (f := 20) (fun _ => same_fn a (n.choice l i)) (by first | exact Or.inr (Or.inl rfl) | exact Or.inl rfl) ?_
  | (with_reducible assumption)
  | with_reducible refine fun (hG : okL _) => ?_
  | (with_reducible refine fun (hT : (_ : Bool) = _) => ?_)
  | (with_reducible first | exact hG.2 | exact hG.2.2 | exact hG.2.2.2 | exact hG.2.2.2.2)
  | with_reducible refine okL_mk ?_ ?_
  | with_reducible refine And.intro ?_ ?_
  | (with_reducible refine awp_loopU (b := f24p7) (fun i : Nat => i ≤ l.length ∧ l.length = n.origin.length ∧ isGo n l (l.drop i) i = isGo n l l 0) (fun i => l.length - i) (fun i => [(14, .d (.v (.int .i64 i)))]) (fun i => []) (0) (⟨Nat.zero_le _, by simp at hc; omega, rfl⟩) (Wk.refl _ _) (Wk_sub rfl rfl ?_ ?_) (fun i hi => ?_))
  | (refine Exists.elim (at_drop Attr.row l i (Int.ofNat_lt.1 (of_decide_eq_true hc))) (fun a he => ?_); have g1 := he.2.1; replace hc : True := trivial)
  | (with_reducible refine loopQ_next (i + 1) ?_ ?_ (Wk_sub rfl rfl ?_ ?_))
  | simp only [f24r0, f24r1, f24r2, f24r3, f24r4, f24r5, f24r6, f24r7, f24r8, f24r9, g1, f24k, List.length_map, runG_nil, runG_u, runG_g, runG_ucS, runG_gcS, runG_uvS, stp, avL, avS, evs, evX, lget, lput, strip, putO, PO.dst, updO, okR, cells, splice, AV.cell, toD, toDs, binV, sameK, pickV, guardOf, okL_nil, sides, argsOf, rawOf, dv, dvL, owns, ownsL, flat, flatL, lkeep, seqQ, blockQ, initS, List.drop_succ_cons, List.drop_zero, List.take_succ_cons, List.take_zero, List.getD_cons_zero, List.getD_cons_succ, List.length_cons, List.length_nil, List.set_cons_zero, List.set_cons_succ, List.map_cons, List.map_nil, List.all_cons, List.all_nil, List.elem_cons, List.elem_nil, Option.getD_some, Option.getD_none, Option.bind_some, Option.isNone_none, reduceIte, reduceCtorEq, Nat.reduceEqDiff, Nat.reduceAdd, Nat.reduceLeDiff, Nat.zero_add, Nat.add_zero, Nat.reduceBEq, Bool.and_self, Bool.and_true, Bool.true_and, Bool.or_self, Bool.or_false, Bool.false_or, Bool.or_true, Bool.true_or, true_and, and_true, and_self, implies_true, forall_const, Bool.false_eq_true, id_eq, retQ, resOf, resV, Option.some.injEq, exists_eq_left', AV.d.injEq, D.v.injEq, Value.bool.injEq, imp_self, bldF, bldS, toVals, eqLs, Option.map_some, imp_false, not_true_eq_false, not_false_eq_true, foot, wrs, nm, nmL, PG.reads, PG.dst, PO.reads, X.sl, sls, slB, List.append_nil, List.cons_append, List.nil_append, Option.toList_some, Option.toList_none, loopQ_exit, loopQ_ret, subS, subO, Bool.bne_false, Bool.bne_true, elemsOf, bslD, bslS, mentries, isAgV, asA, lputs, mgetD_set, mcmp_set, mput_set, List.headD_cons, sealS, sealO, sealV, sealL, mput_nil, mcmp_nil, midQ_ret, midQ_exit, sealsS, sealsO, runW_nil, runW_cons, Bool.true_bne, Bool.false_bne, bne_self_eq_false, Int.reduceToNat, bndV, oSl, resR, runS_nil, runS_gc, ren, renL, renO, sg, gBack]
  | simp only [f24r0, f24r1, f24r2, f24r3, f24r4, f24r5, f24r6, f24r7, f24r8, f24r9, f24k, List.length_map, runG_nil, runG_u, runG_g, runG_ucS, runG_gcS, runG_uvS, stp, avL, avS, evs, evX, lget, lput, strip, putO, PO.dst, updO, okR, cells, splice, AV.cell, toD, toDs, binV, sameK, pickV, guardOf, okL_nil, sides, argsOf, rawOf, dv, dvL, owns, ownsL, flat, flatL, lkeep, seqQ, blockQ, initS, List.drop_succ_cons, List.drop_zero, List.take_succ_cons, List.take_zero, List.getD_cons_zero, List.getD_cons_succ, List.length_cons, List.length_nil, List.set_cons_zero, List.set_cons_succ, List.map_cons, List.map_nil, List.all_cons, List.all_nil, List.elem_cons, List.elem_nil, Option.getD_some, Option.getD_none, Option.bind_some, Option.isNone_none, reduceIte, reduceCtorEq, Nat.reduceEqDiff, Nat.reduceAdd, Nat.reduceLeDiff, Nat.zero_add, Nat.add_zero, Nat.reduceBEq, Bool.and_self, Bool.and_true, Bool.true_and, Bool.or_self, Bool.or_false, Bool.false_or, Bool.or_true, Bool.true_or, true_and, and_true, and_self, implies_true, forall_const, Bool.false_eq_true, id_eq, retQ, resOf, resV, Option.some.injEq, exists_eq_left', AV.d.injEq, D.v.injEq, Value.bool.injEq, imp_self, bldF, bldS, toVals, eqLs, Option.map_some, imp_false, not_true_eq_false, not_false_eq_true, foot, wrs, nm, nmL, PG.reads, PG.dst, PO.reads, X.sl, sls, slB, List.append_nil, List.cons_append, List.nil_append, Option.toList_some, Option.toList_none, loopQ_exit, loopQ_ret, subS, subO, Bool.bne_false, Bool.bne_true, elemsOf, bslD, bslS, mentries, isAgV, asA, lputs, mgetD_set, mcmp_set, mput_set, List.headD_cons, sealS, sealO, sealV, sealL, mput_nil, mcmp_nil, midQ_ret, midQ_exit, sealsS, sealsO, runW_nil, runW_cons, Bool.true_bne, Bool.false_bne, bne_self_eq_false, Int.reduceToNat, bndV, oSl, resR, runS_nil, runS_gc, ren, renL, renO, sg, gBack]
  all_goals try first
    | omega
    | (with_reducible rfl)
    | (show Value.int _ 0 = _; rfl)
    | (simp only [List.length_append, List.length_cons, List.length_nil]; omega)
    | (simp only [List.length_append, List.length_cons, List.length_nil, List.map_append, List.map_cons, List.map_nil]; done)
    | exact count64 he.2.2.2 (by omega)
    | (grind [Net.isV, isGo])
  all_goals trace_state
end Go.Proofs.Ytajkgmmmkhekmaa
