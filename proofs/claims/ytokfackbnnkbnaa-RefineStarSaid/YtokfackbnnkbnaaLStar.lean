/- The law RefineStar: whatever the input, it returns true and changes nothing. Printed by a program of this project (wip/mq). -/
import Derived.Test.YtokfackbnnkbnaaArgsS
import Derived.Test.YtokfackbnnkbnaaAwk17
import Derived.Test.YtokfackbnnkbnaaOf
import Derived.Test.YtokfackbnnkbnaaMqSealB
import Derived.Test.YtokfackbnnkbnaaMqPl
set_option linter.unusedVariables false
set_option linter.unusedSimpArgs false

namespace Go.Proofs.Ytokfackbnnkbnaa
open Go Mq Go.ChangeShapes Go.WideShapes Go.ChangeAt Go.RowKit
/-! maquette/maquettelaw17.RefineStar$1 -/
def f11r0 : List PG := [.u (.mv 3 (.k (.int .i64 0)))]
def f11r1 : List PG := [.u (.ld 4 1 false (.t 1)), .u (.len 5 (.t 4)), .u (.beq 6 false false (.t 5) (.k (.int .i64 0)))]
def f11r2 : List PG := [.u (.mv 3 (.k (.int .i64 1)))]
abbrev f11p0 : PC := .seq (.reg f11r2) (.ret)
abbrev f11p1 : PC := .cond (.t 6) (f11p0) (.skip)
def f11r3 : List PG := [.u (.ld 7 1 false (.t 1)), .u (.mv 8 (.t 0)), .u (.ld 9 1 false (.t 1)), .u (.len 10 (.t 9)), .u (.bo 11 .rem (.t 8) (.t 10)), .u (.ia 12 1 (.t 7) (.t 11)), .u (.ld 13 1 false (.t 12)), .u (.bo 14 .rem (.t 13) (.k (.int .u8 4))), .u (.cv 15 .i64 (.t 14)), .u (.bo 16 .add (.k (.int .i64 1)) (.t 15)), .u (.mv 3 (.t 16))]
abbrev f11p2 : PC := .seq (.regD f11r3 []) (.ret)
abbrev f11p3 : PC := .seq (.seq (.reg f11r1) (f11p1)) (f11p2)
abbrev f11pc : PC := .seq (.reg f11r0) (f11p3)
def f11k : List Nat := [0, 1, 3, 6]
theorem f11c : Try.f11.body.bind (cC te Try.f11.ntmps) = some f11pc := by kernel_rfl
/-! maquette/maquettelaw17.RefineStar -/
def f3r0 : List PG := [.u (.bx 3 (.t 1)), .u (.mv 4 (.k (.bool false)))]
def f3r1 : List PG := [.uc 13 10 [], .u (.no 14 (.t 13))]
def f3r2 : List PG := [.u (.mv 4 (.k (.bool false)))]
abbrev f3p0 : PC := .seq (.reg f3r2) (.ret)
abbrev f3p1 : PC := .cond (.t 14) (f3p0) (.skip)
def f3r3 : List PG := [.u (.mv 15 (.t 0)), .u (.bo 16 .rem (.t 15) (.k (.int .u8 20))), .u (.cv 17 .i64 (.t 16)), .u (.bo 18 .add (.k (.int .i64 1)) (.t 17)), .u (.mv 5 (.t 18))]
def f3r4 : List PG := [.u (.mkf 19 11 [.t 3]), .u (.mv 6 (.t 19))]
def f3r5 : List PG := [.u (.bsl 20 4 1 [.k (.bool true)]), .u (.bsl 21 3 1 [.k (.int .i64 (-1))]), .u (.bsl 22 34 1 [.k (.slice none 0 0)]), .u (.bld 23 [.nl 1, .nl 1, .nl 1] [((0, 1), .t 20), ((1, 1), .t 21), ((2, 1), .t 22)]), .u (.al 7 [.nl 1, .nl 1, .nl 1]), .u (.st 3 (.t 7) (.t 23))]
def f3r6 : List PG := [.u (.mkm 24 false false), .u (.mv 8 (.t 24))]
def f3r7 : List PG := [.u (.mv 9 (.k (.int .i64 1)))]
def f3r8 : List PG := [.u (.mv 25 (.t 9)), .u (.mv 26 (.t 5)), .u (.bo 27 .leq (.t 25) (.t 26))]
abbrev f3p2 : PC := .cond (.t 27) (.skip) (.exit 0)
def f3r9 : List PG := [.u (.fa 30 0 (.t 7)), .u (.ld 31 1 false (.t 30)), .u (.bsl 32 4 1 [.k (.bool false)]), .u (.app 33 4 1 1 (.t 31) (.t 32)), .u (.fa 34 1 (.t 7)), .u (.ld 35 1 false (.t 34)), .u (.bsl 36 3 1 [.k (.int .i64 (-1))]), .u (.app 37 3 1 8 (.t 35) (.t 36)), .u (.fa 38 0 (.t 7)), .u (.st 1 (.t 38) (.t 33)), .u (.fa 39 1 (.t 7)), .u (.st 1 (.t 39) (.t 37))]
def f3r10 : List PG := [.u (.fa 40 2 (.t 7)), .u (.ld 41 1 false (.t 40)), .u (.mv 42 (.t 6)), .u (.mv 43 (.t 9)), .uv 44 42 [.t 43], .u (.bld 45 [.d (.v (.int .i64 0)), .d (.v (.int .i64 0)), .nl 10, .nl 10] [((0, 1), .k (.int .i64 0)), ((1, 1), .t 44)]), .u (.bslF 46 33 4 [.t 45]), .u (.bslF 47 34 1 [.t 46]), .u (.app 48 34 1 24 (.t 41) (.t 47)), .u (.fa 49 2 (.t 7)), .u (.st 1 (.t 49) (.t 48))]
def f3r11 : List PG := [.u (.fa 50 2 (.t 7)), .u (.ld 51 1 false (.t 50)), .u (.fa 52 2 (.t 7)), .u (.ld 53 1 false (.t 52)), .u (.ia 54 1 (.t 53) (.k (.int .i64 0))), .u (.ld 55 1 false (.t 54)), .u (.mv 56 (.t 9)), .u (.mv 57 (.t 6)), .u (.mv 58 (.t 9)), .uv 59 57 [.t 58], .u (.bld 60 [.d (.v (.int .i64 0)), .d (.v (.int .i64 0)), .nl 10, .nl 10] [((0, 1), .t 56), ((1, 1), .t 59)]), .u (.bslF 61 33 4 [.t 60]), .u (.app 62 33 4 64 (.t 55) (.t 61)), .u (.ia 63 1 (.t 51) (.k (.int .i64 0))), .u (.st 1 (.t 63) (.t 62))]
def f3r12 : List PG := [.u (.mv 64 (.t 8)), .u (.mv 65 (.t 6)), .u (.mv 66 (.t 9)), .uv 67 65 [.t 66], .u (.mup false false [.i] 1 (.t 64) (.t 67) (.k (.bool true)))]
abbrev f3p3 : PC := .seq (.regD f3r11 [(0, 12), (1, 12)]) (.reg f3r12)
abbrev f3p4 : PC := .seq (.regD f3r10 []) (f3p3)
def f3r13 : List PG := [.u (.mv 28 (.t 9)), .u (.bo 29 .add (.t 28) (.k (.int .i64 1))), .u (.mv 9 (.t 29))]
abbrev f3p5 : PC := .seq (.block 1 (.seq (.regD f3r9 [(0, 2), (1, 2), (2, 4), (3, 4), (2, 5), (3, 5), (0, 6), (1, 6), (2, 6), (3, 6), (4, 6), (5, 6), (6, 8), (7, 8)]) (f3p4))) (.reg f3r13)
abbrev f3p6 : PC := .seq (.seq (.reg f3r8) (f3p2)) (f3p5)
abbrev f3p7 : PC := .block 0 (.loop (f3p6))
def f3r14 : List PG := [.u (.ld 69 3 true (.t 7)), .uc 70 12 [.t 69], .u (.mv 68 (.t 70)), .u (.ext 71 (.t 68) 0), .u (.ext 72 (.t 68) 1), .u (.mv 10 (.t 71)), .u (.mv 11 (.t 72))]
def f3r15 : List PG := [.u (.mv 73 (.t 11)), .u (.beqn 74 true (.t 73)), .u (.mv 75 (.t 74)), .g 75 false (.mv 76 (.t 10)), .g 75 false (.len 77 (.t 76)), .g 75 false (.mv 78 (.t 5)), .g 75 false (.bo 79 .add (.t 78) (.k (.int .i64 1))), .g 75 false (.beq 80 true false (.t 77) (.t 79)), .u (.pick 81 (.t 75) (.k (.bool true)) (.t 80)), .u (.mv 82 (.t 81)), .g 82 false (.mv 83 (.t 10)), .gc 82 false 84 13 [.t 83], .g 82 false (.mv 85 (.t 8)), .g 82 false (.mln 86 false false (.t 85)), .g 82 false (.bo 87 .add (.k (.int .i64 1)) (.t 86)), .g 82 false (.beq 88 true false (.t 84) (.t 87)), .u (.pick 89 (.t 82) (.k (.bool true)) (.t 88))]
def f3r16 : List PG := [.u (.mv 4 (.k (.bool false)))]
abbrev f3p8 : PC := .seq (.reg f3r16) (.ret)
abbrev f3p9 : PC := .cond (.t 89) (f3p8) (.skip)
def f3r17 : List PG := [.u (.mv 12 (.k (.int .i64 1)))]
def f3r18 : List PG := [.u (.mv 90 (.t 12)), .u (.mv 91 (.t 5)), .u (.bo 92 .leq (.t 90) (.t 91))]
abbrev f3p10 : PC := .cond (.t 92) (.skip) (.exit 2)
def f3r19 : List PG := [.u (.mv 95 (.t 10)), .u (.mv 96 (.t 12)), .u (.ia 97 1 (.t 95) (.t 96)), .u (.ld 98 1 false (.t 97)), .u (.mv 99 (.t 10)), .u (.ia 100 1 (.t 99) (.k (.int .i64 1))), .u (.ld 101 1 false (.t 100)), .u (.beq 102 false false (.t 98) (.t 101)), .u (.mv 103 (.t 6)), .u (.mv 104 (.t 12)), .uv 105 103 [.t 104], .u (.mv 106 (.t 6)), .uv 107 106 [.k (.int .i64 1)], .u (.beq 108 false false (.t 105) (.t 107)), .u (.beq 109 true true (.t 102) (.t 108))]
def f3r20 : List PG := [.u (.mv 4 (.k (.bool false)))]
abbrev f3p11 : PC := .seq (.reg f3r20) (.ret)
abbrev f3p12 : PC := .cond (.t 109) (f3p11) (.skip)
def f3r21 : List PG := [.u (.mv 93 (.t 12)), .u (.bo 94 .add (.t 93) (.k (.int .i64 1))), .u (.mv 12 (.t 94))]
abbrev f3p13 : PC := .seq (.block 3 (.seq (.regD f3r19 []) (f3p12))) (.reg f3r21)
abbrev f3p14 : PC := .seq (.seq (.reg f3r18) (f3p10)) (f3p13)
abbrev f3p15 : PC := .block 2 (.loop (f3p14))
def f3r22 : List PG := [.u (.mv 4 (.k (.bool true)))]
abbrev f3p16 : PC := .seq (.reg f3r22) (.ret)
abbrev f3p17 : PC := .seq (.seq (.reg f3r17) (f3p15)) (f3p16)
abbrev f3p18 : PC := .seq (.seq (.reg f3r15) (f3p9)) (f3p17)
abbrev f3p19 : PC := .seq (.reg f3r14) (f3p18)
abbrev f3p20 : PC := .seq (.seq (.reg f3r7) (f3p7)) (f3p19)
abbrev f3p21 : PC := .seq (.reg f3r6) (f3p20)
abbrev f3p22 : PC := .seq (.reg f3r5) (f3p21)
abbrev f3p23 : PC := .seq (.reg f3r4) (f3p22)
abbrev f3p24 : PC := .seq (.reg f3r3) (f3p23)
abbrev f3p25 : PC := .seq (.seq (.reg f3r1) (f3p1)) (f3p24)
abbrev f3pc : PC := .seq (.reg f3r0) (f3p25)
def f3k : List Nat := [0, 1, 3, 4, 5, 6, 7, 8, 9, 10, 11, 12, 14, 27, 89, 92, 109]
theorem f3c : Try.f3.body.bind (cC te Try.f3.ntmps) = some f3pc := by kernel_rfl
set_option maxRecDepth 20000
set_option maxHeartbeats 4000000
set_option linter.unusedSimpArgs false
set_option linter.unusedVariables false

def cst (cs : List Int) (i : Nat) : Int := if cs.length = 0 then 1 else 1 + (cs.getD ((i : Int).tmod cs.length).toNat 0).tmod 4
def cL (cs : List Int) (j : Nat) : List Int := (List.range j).map fun i => cst cs (i + 1)
theorem cL_snoc (cs : List Int) (j : Nat) : cL cs (j + 1) = cL cs j ++ [cst cs (j + 1)] := by simp [cL, List.range_succ]
theorem cL_len (cs : List Int) (j : Nat) : (cL cs j).length = j := by simp [cL]
theorem cL_get (cs : List Int) {i j : Nat} (h : i < j) : (cL cs j)[i]? = some (cst cs (i + 1)) := by simp [cL, h]
theorem tm4 {v : Int} (h : 0 ≤ v) : 0 ≤ v.tmod 4 ∧ v.tmod 4 ≤ 3 := by
  rw [Int.tmod_eq_emod_of_nonneg h]; omega
theorem cst_rng {cs : List Int} (h : B8 cs) (i : Nat) : 1 ≤ cst cs i ∧ cst cs i ≤ 4 := by
  unfold cst
  split
  · omega
  · have h0 : 0 ≤ cs.getD ((i : Int).tmod cs.length).toNat 0 := by
      rcases Nat.lt_or_ge ((i : Int).tmod cs.length).toNat cs.length with q | q
      · exact (h.2 _ (List.mem_of_getElem? (some_getD 0 q))).1
      · simp [List.getD, q]
    have := tm4 h0
    omega
theorem cL_ok {cs : List Int} (h : B8 cs) {j : Nat} (hj : j ≤ 63) : CostOk (cL cs j) := ⟨fun x hx => by
  simp only [cL, List.mem_map] at hx
  obtain ⟨i, _, rfl⟩ := hx
  have := cst_rng h (i + 1)
  omega, by rw [cL_len]; exact hj⟩
def stO (c : List Int) : List (List D) := (true :: List.replicate c.length false).map bD
def stS (c : List Int) : List (List D) := (-1 :: List.replicate c.length (-1)).map iD
def stT (c : List Int) : List (List D) := (c.map fun x => [⟨0, x, [], []⟩]).map esD
def stM (c : List Int) : List (List D) := (starE c).map Arc.row
theorem stO_len (c : List Int) : (stO c).length = c.length + 1 := by simp [stO]
theorem stS_len (c : List Int) : (stS c).length = c.length + 1 := by simp [stS]
theorem stT_len (c : List Int) : (stT c).length = c.length := by simp [stT]
theorem stM_len (c : List Int) : (stM c).length = c.length := by simp [stM, starE_len]
theorem stO_snoc (c : List Int) (x : Int) : stO c ++ [[.v (.bool false)]] = stO (c ++ [x]) := by simp [stO, List.replicate_succ']
theorem stS_snoc (c : List Int) (x : Int) : stS c ++ [[.v (.int .i64 (-1))]] = stS (c ++ [x]) := by simp [stS, List.replicate_succ']
theorem stT_snoc (c : List Int) (x : Int) : stT c ++ [[.sl 4 [[.v (.int .i64 0), .v (.int .i64 x), .sl 10 [], .sl 10 []]]]] = stT (c ++ [x]) := by simp [stT]
theorem starE_snoc (c : List Int) (x : Int) : starE (c ++ [x]) = starE c ++ [⟨(c.length : Int) + 1, x, [], []⟩] := by
  unfold starE
  rw [List.length_append, List.length_singleton, List.range_succ, List.map_append]
  congr 1
  · refine List.map_congr_left fun i hi => ?_
    have := List.mem_range.1 hi
    rw [List.getD_eq_getElem?_getD, List.getElem?_append_left this, List.getD_eq_getElem?_getD]
  · simp [List.getD]
theorem stM_snoc (c : List Int) (x : Int) {v : Int} (hv : v = (c.length : Int) + 1) : stM c ++ [[.v (.int .i64 v), .v (.int .i64 x), .sl 10 [], .sl 10 []]] = stM (c ++ [x]) := by
  subst hv; simp [stM, starE_snoc]
theorem star_box (c : List Int) : AV.ag [.d (.sl 1 (stO c)), .d (.sl 1 (stS c)), .d (.sl 1 ([.sl 4 (stM c)] :: stT c))] = (starN c).av := rfl
theorem mset_len (s : List Int) : (mset s).length = s.length := by simp [mset]

theorem cost_fn0 (i : Nat) : FnS Try.prog 11 [.d (.v (.int .i64 i)), .d (.cp [.sl 1 (([] : List Int).map uD)] 0)] (.d (.v (.int .i64 (cst [] i)))) := by
  have g1 : cst [] i = 1 := rfl
  rw [g1]
  refine fn_of teok Try.func11 (by kernel_rfl) f11c f11k [.tmp 3] rfl (by show 2 ≤ 17; omega) ?_
  repeat' first
  | (exact absurd hc (by decide))
  | with_reducible refine awp_seq ?_
  | with_reducible refine awp_block ?_
  | with_reducible refine awp_scope ?_
  | with_reducible refine awp_reg ?_
  | with_reducible refine awp_regD ?_
  | with_reducible refine awp_ret ?_
  | with_reducible refine awp_skip ?_
  | with_reducible refine awp_exit ?_
  | with_reducible refine normQ_of ?_
  | with_reducible refine wkE_of ?_
  | with_reducible refine midQ_of (Wk_sub rfl rfl ?_ ?_)
  | with_reducible refine runD_nil ?_
  | with_reducible refine runD_cons ?_
  | with_reducible refine runF_cons ?_
  | with_reducible refine runF_nil ?_
  | with_reducible refine KF_of ?_
  | with_reducible refine chkQ_of rfl ?_
  | with_reducible refine awp_cond (by simp only [evX, lget, Option.getD_some, reduceIte, Nat.reduceEqDiff]; rfl) (fun hc => ?_) (fun hc => ?_)
  | (with_reducible assumption)
  | with_reducible refine fun (hG : okL _) => ?_
  | (with_reducible refine fun (hT : (_ : Bool) = _) => ?_)
  | (with_reducible first | exact hG.2 | exact hG.2.2 | exact hG.2.2.2 | exact hG.2.2.2.2)
  | with_reducible refine okL_mk ?_ ?_
  | with_reducible refine And.intro ?_ ?_
  | simp only [f11r0, f11r1, f11r2, f11r3, f11k, List.map_nil, List.length_nil, runG_nil, runG_u, runG_g, runG_ucS, runG_gcS, runG_uvS, stp, avL, avS, evs, evX, lget, lput, strip, putO, PO.dst, updO, okR, cells, splice, AV.cell, toD, toDs, binV, sameK, pickV, guardOf, okL_nil, sides, argsOf, rawOf, dv, dvL, owns, ownsL, flat, flatL, lkeep, seqQ, blockQ, initS, List.drop_succ_cons, List.drop_zero, List.take_succ_cons, List.take_zero, List.getD_cons_zero, List.getD_cons_succ, List.length_cons, List.length_nil, List.set_cons_zero, List.set_cons_succ, List.map_cons, List.map_nil, List.all_cons, List.all_nil, List.elem_cons, List.elem_nil, Option.getD_some, Option.getD_none, Option.bind_some, Option.isNone_none, reduceIte, reduceCtorEq, Nat.reduceEqDiff, Nat.reduceAdd, Nat.reduceLeDiff, Nat.zero_add, Nat.add_zero, Nat.reduceBEq, Bool.and_self, Bool.and_true, Bool.true_and, Bool.or_self, Bool.or_false, Bool.false_or, Bool.or_true, Bool.true_or, true_and, and_true, and_self, implies_true, forall_const, Bool.false_eq_true, id_eq, retQ, resOf, resV, Option.some.injEq, exists_eq_left', AV.d.injEq, D.v.injEq, Value.bool.injEq, imp_self, bldF, bldS, toVals, eqLs, Option.map_some, imp_false, not_true_eq_false, not_false_eq_true, foot, wrs, nm, nmL, PG.reads, PG.dst, PO.reads, X.sl, sls, slB, List.append_nil, List.cons_append, List.nil_append, Option.toList_some, Option.toList_none, loopQ_exit, loopQ_ret, subS, subO, Bool.bne_false, Bool.bne_true, elemsOf, bslD, bslS, mentries, isAgV, asA, lputs, mgetD_set, mcmp_set, mput_set, List.headD_cons, sealS, sealO, sealV, sealL, mput_nil, mcmp_nil, midQ_ret, midQ_exit, sealsS, sealsO, runW_nil, runW_cons, Bool.true_bne, Bool.false_bne, bne_self_eq_false, Int.reduceToNat, bndV, oSl, resR, runS_nil, runS_gc, ren, renL, renO, sg, gBack, scopeQ_normal, scopeQ_ret, scopeQ_exit, lenB, argsN, dvN]
  all_goals try first
    | (with_reducible rfl)
    | rfl
theorem cost_fnS (cs : List Int) (hcs : B8 cs) (h0 : ¬ cs.length = 0) (i : Nat) (hi : i ≤ 1000) : FnS Try.prog 11 [.d (.v (.int .i64 i)), .d (.cp [.sl 1 (cs.map uD)] 0)] (.d (.v (.int .i64 (cst cs i)))) := by
  have hm : maxLen = 9223372036854775807 := rfl
  have hcl := hcs.1
  have h1 : 0 ≤ (i : Int).tmod cs.length ∧ (i : Int).tmod cs.length < cs.length := by
    rw [Int.tmod_eq_emod_of_nonneg (by omega)]
    exact ⟨Int.emod_nonneg _ (by omega), Int.emod_lt_of_pos _ (by omega)⟩
  have hk : ((i : Int).tmod cs.length).toNat < cs.length := by omega
  have g1 : List.getD (List.map uD cs) ((i : Int).tmod cs.length).toNat [] = uD (cs.getD ((i : Int).tmod cs.length).toNat 0) := at_int uD cs 0 h1.1 h1.2
  have hv := hcs.2 _ (List.mem_of_getElem? (some_getD 0 hk))
  have h4 := tm4 hv.1
  have g2 : IntKind.i64.wrap ((cs.getD ((i : Int).tmod cs.length).toNat 0).tmod 4) = (cs.getD ((i : Int).tmod cs.length).toNat 0).tmod 4 := wrapI64 _ (by omega) (by omega)
  have g3 : IntKind.i64.wrap (1 + (cs.getD ((i : Int).tmod cs.length).toNat 0).tmod 4) = cst cs i := by
    rw [wrapI64 _ (by omega) (by omega)]; unfold cst; rw [if_neg h0]
  have g4 : ((cs.length : Int) == 0) = false := by rw [beq_eq_false_iff_ne]; omega
  refine fn_of teok Try.func11 (by kernel_rfl) f11c f11k [.tmp 3] rfl (by show 2 ≤ 17; omega) ?_
  first | (have _q := @g1; clear _q) | have g1 : Nat.pred 77 = 76 := rfl
  first | (have _q := @g2; clear _q) | have g2 : Nat.pred 77 = 76 := rfl
  first | (have _q := @g3; clear _q) | have g3 : Nat.pred 77 = 76 := rfl
  first | (have _q := @g4; clear _q) | have g4 : Nat.pred 77 = 76 := rfl
  repeat' first
  | (exact absurd hc (by decide))
  | (exfalso; simp only [List.length_map] at hc; rw [g4] at hc; exact absurd hc (by decide))
  | with_reducible refine awp_seq ?_
  | with_reducible refine awp_block ?_
  | with_reducible refine awp_scope ?_
  | with_reducible refine awp_reg ?_
  | with_reducible refine awp_regD ?_
  | with_reducible refine awp_ret ?_
  | with_reducible refine awp_skip ?_
  | with_reducible refine awp_exit ?_
  | with_reducible refine normQ_of ?_
  | with_reducible refine wkE_of ?_
  | with_reducible refine midQ_of (Wk_sub rfl rfl ?_ ?_)
  | with_reducible refine runD_nil ?_
  | with_reducible refine runD_cons ?_
  | with_reducible refine runF_cons ?_
  | with_reducible refine runF_nil ?_
  | with_reducible refine KF_of ?_
  | with_reducible refine chkQ_of rfl ?_
  | with_reducible refine awp_cond (by simp only [evX, lget, Option.getD_some, reduceIte, Nat.reduceEqDiff]; rfl) (fun hc => ?_) (fun hc => ?_)
  | (with_reducible assumption)
  | with_reducible refine fun (hG : okL _) => ?_
  | (with_reducible refine fun (hT : (_ : Bool) = _) => ?_)
  | (with_reducible first | exact hG.2 | exact hG.2.2 | exact hG.2.2.2 | exact hG.2.2.2.2)
  | with_reducible refine okL_mk ?_ ?_
  | with_reducible refine And.intro ?_ ?_
  | simp only [f11r0, f11r1, f11r2, f11r3, g1, g2, g3, g4, f11k, List.length_map, runG_nil, runG_u, runG_g, runG_ucS, runG_gcS, runG_uvS, stp, avL, avS, evs, evX, lget, lput, strip, putO, PO.dst, updO, okR, cells, splice, AV.cell, toD, toDs, binV, sameK, pickV, guardOf, okL_nil, sides, argsOf, rawOf, dv, dvL, owns, ownsL, flat, flatL, lkeep, seqQ, blockQ, initS, List.drop_succ_cons, List.drop_zero, List.take_succ_cons, List.take_zero, List.getD_cons_zero, List.getD_cons_succ, List.length_cons, List.length_nil, List.set_cons_zero, List.set_cons_succ, List.map_cons, List.map_nil, List.all_cons, List.all_nil, List.elem_cons, List.elem_nil, Option.getD_some, Option.getD_none, Option.bind_some, Option.isNone_none, reduceIte, reduceCtorEq, Nat.reduceEqDiff, Nat.reduceAdd, Nat.reduceLeDiff, Nat.zero_add, Nat.add_zero, Nat.reduceBEq, Bool.and_self, Bool.and_true, Bool.true_and, Bool.or_self, Bool.or_false, Bool.false_or, Bool.or_true, Bool.true_or, true_and, and_true, and_self, implies_true, forall_const, Bool.false_eq_true, id_eq, retQ, resOf, resV, Option.some.injEq, exists_eq_left', AV.d.injEq, D.v.injEq, Value.bool.injEq, imp_self, bldF, bldS, toVals, eqLs, Option.map_some, imp_false, not_true_eq_false, not_false_eq_true, foot, wrs, nm, nmL, PG.reads, PG.dst, PO.reads, X.sl, sls, slB, List.append_nil, List.cons_append, List.nil_append, Option.toList_some, Option.toList_none, loopQ_exit, loopQ_ret, subS, subO, Bool.bne_false, Bool.bne_true, elemsOf, bslD, bslS, mentries, isAgV, asA, lputs, mgetD_set, mcmp_set, mput_set, List.headD_cons, sealS, sealO, sealV, sealL, mput_nil, mcmp_nil, midQ_ret, midQ_exit, sealsS, sealsO, runW_nil, runW_cons, Bool.true_bne, Bool.false_bne, bne_self_eq_false, Int.reduceToNat, bndV, oSl, resR, runS_nil, runS_gc, ren, renL, renO, sg, gBack, scopeQ_normal, scopeQ_ret, scopeQ_exit, lenB, argsN, dvN]
  all_goals try first
    | omega
    | (with_reducible rfl)
    | exact h1.1
    | exact h1.2
  all_goals trace_state
theorem cost_fn (cs : List Int) (hcs : B8 cs) (i : Nat) (hi : i ≤ 1000) : FnS Try.prog 11 [.d (.v (.int .i64 i)), .d (.cp [.sl 1 (cs.map uD)] 0)] (.d (.v (.int .i64 (cst cs i)))) := by
  rcases Classical.em (cs.length = 0) with h0 | h0
  · have : cs = [] := List.eq_nil_of_length_eq_zero h0
    subst this
    exact cost_fn0 i
  · exact cost_fnS cs hcs h0 i hi
theorem cost1_fn (cs : List Int) (hcs : B8 cs) : FnS Try.prog 11 [.d (.v (.int .i64 1)), .d (.cp [.sl 1 (cs.map uD)] 0)] (.d (.v (.int .i64 (cst cs 1)))) := cost_fn cs hcs 1 (by decide)

theorem rof_star (c : List Int) (h : CostOk c) : FnS Try.prog 12 [.ag [.d (.sl 1 (stO c)), .d (.sl 1 (stS c)), .d (.sl 1 ([.sl 4 (stM c)] :: stT c))]] (.tp [.d (.sl 1 ((findV (starN c)).map iD)), .d (.v .nilIface)]) := by
  rw [star_box]; exact rof_yes (starN c) (star_small h) (star_may h)
theorem count_star (c : List Int) (h : CostOk c) : FnS Try.prog 13 [.d (.sl 1 ((findV (starN c)).map iD))] (.d (.v (.int .i64 (countV (findV (starN c)))))) :=
  count_of (starN c) (Net.may_spec (star_may h)) _ (find_spec (Net.may_spec (star_may h))).1
theorem star_findlen {c : List Int} (h : CostOk c) : (findV (starN c)).length = c.length + 1 := by rw [(find_spec (Net.may_spec (star_may h))).1.len, star_len]
theorem star_cnt {c : List Int} (h : CostOk c) : 0 ≤ countV (findV (starN c)) ∧ countV (findV (starN c)) ≤ c.length + 1 := by
  have h1 := (find_spec (Net.may_spec (star_may h))).1
  have h2 := h1.can.count_le
  have h3 := count_nonneg (findV (starN c))
  rw [h1.len, star_len] at h2
  exact ⟨h3, by omega⟩
theorem row_eq {e s g : Nat} {a b : List (List D)} (h : a = b) : AO.row e s g a = AO.row e s g b := by rw [h]
theorem rov_eq {e g i : Nat} {x : List D} {a b : List (List D)} {v : AV} (h : a = b) : AO.rov e g (x :: a) i v = AO.rov e g (x :: b) i v := by rw [h]
theorem map_eq {s u : List Int} (h : s = u) : AO.map false false (mset s) = AO.map false false (mset u) := by rw [h]
theorem refineStar_fn (n : Int) (hn : 0 ≤ n ∧ n ≤ 255) (cs : List Int) (hcs : B8 cs) : FnS Try.prog 3 [.d (.v (.int .u8 n)), .d (.sl 1 (cs.map uD))] (.d (.v (.bool true))) := by
  have hm : maxLen = 9223372036854775807 := rfl
  obtain ⟨K, g1, hK1, hK2⟩ : ∃ K : Nat, IntKind.i64.wrap (1 + IntKind.i64.wrap (n.tmod 20)) = (K : Int) ∧ 1 ≤ K ∧ K ≤ 20 := by
    have h1 : 0 ≤ n.tmod 20 ∧ n.tmod 20 < 20 := by rw [Int.tmod_eq_emod_of_nonneg hn.1]; omega
    refine ⟨(1 + n.tmod 20).toNat, ?_, by omega, by omega⟩
    rw [wrapI64 (n.tmod 20) (by omega) (by omega), wrapI64 _ (by omega) (by omega)]; omega
  have g2 : IntKind.i64.wrap ((K : Int) + 1) = ((K + 1 : Nat) : Int) := by rw [wrapI64 _ (by omega) (by omega)]; rfl
  refine fn_of teok Try.func3 (by kernel_rfl) f3c f3k [.tmp 4] rfl (by show 2 ≤ 110; omega) ?_
  first | (have _q := @g1; clear _q) | have g1 : Nat.pred 77 = 76 := rfl
  first | (have _q := @g2; clear _q) | have g2 : Nat.pred 77 = 76 := rfl
  first | (have _q := @g3; clear _q) | have g3 : Nat.pred 77 = 76 := rfl
  first | (have _q := @g4; clear _q) | have g4 : Nat.pred 77 = 76 := rfl
  first | (have _q := @g5; clear _q) | have g5 : Nat.pred 77 = 76 := rfl
  first | (have _q := @g6; clear _q) | have g6 : Nat.pred 77 = 76 := rfl
  first | (have _q := @g7; clear _q) | have g7 : Nat.pred 77 = 76 := rfl
  repeat' first
  | (exact absurd hc (by decide))
  | (with_reducible refine awp_cut (l := f3r4) [(0, [1003])] ?_; unfold f3r4)
  | (with_reducible refine wkE_box (ns := [1003]) 3 (by decide) rfl rfl ?_)
  | (with_reducible refine awp_exit_seal (i := 0) [200, 20, 21, 22] ?_)
  | with_reducible refine awp_seq ?_
  | with_reducible refine awp_block ?_
  | with_reducible refine awp_scope ?_
  | with_reducible refine awp_reg ?_
  | with_reducible refine awp_regD ?_
  | with_reducible refine awp_ret ?_
  | with_reducible refine awp_skip ?_
  | with_reducible refine awp_exit ?_
  | with_reducible refine normQ_of ?_
  | with_reducible refine wkE_of ?_
  | with_reducible refine midQ_of (Wk_sub rfl rfl ?_ ?_)
  | with_reducible refine runD_nil ?_
  | with_reducible refine runD_cons ?_
  | with_reducible refine runF_cons ?_
  | with_reducible refine runF_nil ?_
  | with_reducible refine KF_of ?_
  | with_reducible refine chkQ_of rfl ?_
  | with_reducible refine awp_cond (by simp only [evX, lget, Option.getD_some, reduceIte, Nat.reduceEqDiff]; rfl) (fun hc => ?_) (fun hc => ?_)
  | with_reducible refine CallU_of (f := 10) (awake17_fn) (by first | exact Or.inr (Or.inl rfl) | exact Or.inl rfl) ?_
  | with_reducible refine CallC_of (f := 10) (fun _ => awake17_fn) (by first | exact Or.inr (Or.inl rfl) | exact Or.inl rfl) ?_
  | with_reducible refine CallU_of (f := 11) (cost_fn cs hcs (x.1 + 1) (by omega)) (by first | exact Or.inr (Or.inl rfl) | exact Or.inl rfl) ?_
  | with_reducible refine CallC_of (f := 11) (fun _ => cost_fn cs hcs (x.1 + 1) (by omega)) (by first | exact Or.inr (Or.inl rfl) | exact Or.inl rfl) ?_
  | with_reducible refine CallU_of (f := 11) (cost_fn cs hcs (y.1 + 1) (by omega)) (by first | exact Or.inr (Or.inl rfl) | exact Or.inl rfl) ?_
  | with_reducible refine CallC_of (f := 11) (fun _ => cost_fn cs hcs (y.1 + 1) (by omega)) (by first | exact Or.inr (Or.inl rfl) | exact Or.inl rfl) ?_
  | with_reducible refine CallU_of (f := 11) (cost1_fn cs hcs) (by first | exact Or.inr (Or.inl rfl) | exact Or.inl rfl) ?_
  | with_reducible refine CallC_of (f := 11) (fun _ => cost1_fn cs hcs) (by first | exact Or.inr (Or.inl rfl) | exact Or.inl rfl) ?_
  | with_reducible refine CallU_of (f := 12) (rof_star (cL cs x.1) (cL_ok hcs (by omega))) (by first | exact Or.inr (Or.inl rfl) | exact Or.inl rfl) ?_
  | with_reducible refine CallC_of (f := 12) (fun _ => rof_star (cL cs x.1) (cL_ok hcs (by omega))) (by first | exact Or.inr (Or.inl rfl) | exact Or.inl rfl) ?_
  | with_reducible refine CallU_of (f := 13) (count_star (cL cs x.1) (cL_ok hcs (by omega))) (by first | exact Or.inr (Or.inl rfl) | exact Or.inl rfl) ?_
  | with_reducible refine CallC_of (f := 13) (fun _ => count_star (cL cs x.1) (cL_ok hcs (by omega))) (by first | exact Or.inr (Or.inl rfl) | exact Or.inl rfl) ?_
  | (with_reducible assumption)
  | with_reducible refine fun (hG : okL _) => ?_
  | (with_reducible refine fun (hT : (_ : Bool) = _) => ?_)
  | (with_reducible first | exact hG.2 | exact hG.2.2 | exact hG.2.2.2 | exact hG.2.2.2.2)
  | with_reducible refine okL_mk ?_ ?_
  | with_reducible refine And.intro ?_ ?_
  | (with_reducible refine loopQ_next ((x.1 + 1, ())) ?_ ?_ (Wk_sub rfl rfl ?_ ?_))
  | (with_reducible refine loopQ_next ((y.1 + 1, (), ())) ?_ ?_ (Wk_sub rfl rfl ?_ ?_))
  | (with_reducible refine awp_loopU (b := f3p6) (fun x : Nat × Unit => x.1 ≤ K) (fun x => K - x.1) (fun x => [(9, .d (.v (.int .i64 ((x.1 + 1 : Nat) : Int))))]) (fun x => [(7, .box [.own 20 x.1, .own 21 x.1, .own 22 x.1]), (20, .row 4 1 x.1 (stO (cL cs x.1))), (21, .row 3 1 x.1 (stS (cL cs x.1))), (22, .rov 34 x.1 ([.v (.slice none 0 0)] :: stT (cL cs x.1)) 0 (.own 200 x.1)), (200, .row 33 4 x.1 (stM (cL cs x.1))), (24, .map false false (mset (setL (cL cs x.1))))]) ((0, ())) (Nat.zero_le _) (Wk_nlR 22 0 200 33 (s := 4) rfl rfl rfl (by decide)) (Wk_sub rfl rfl ?_ ?_) (fun x hx => ?_))
  | (have hlt : x.1 < K := (by have := of_decide_eq_true (show decide (((x.1 + 1 : Nat) : Int) ≤ (K : Int)) = true from hc); omega); replace hc : True := trivial)
  | (have hend : x.1 = K := (by have := of_decide_eq_false (show decide (((x.1 + 1 : Nat) : Int) ≤ (K : Int)) = false from hc); omega); have hco := cL_ok (j := x.1) hcs (by omega); have hfl := star_findlen hco; rw [cL_len] at hfl; have g3 : (((findV (starN (cL cs x.1))).length : Int) == ((K + 1 : Nat) : Int)) = true := (by rw [hfl, hend]; simp); have hcnt := star_count hco; have hcn := star_cnt hco; rw [cL_len] at hcn; have g7 : IntKind.i64.wrap (1 + ((setL (cL cs x.1)).length : Int)) = countV (findV (starN (cL cs x.1))) := (by rw [← hcnt]; exact wrapI64 _ (by omega) (by omega)); replace hc : True := trivial)
  | (with_reducible refine awp_loopU (b := f3p14) (fun y : Nat × Unit × Unit => y.1 ≤ K) (fun y => K - y.1) (fun y => [(12, .d (.v (.int .i64 ((y.1 + 1 : Nat) : Int))))]) (fun y => []) ((0, (), ())) (Nat.zero_le _) (Wk.refl _ _) (Wk_sub rfl rfl ?_ ?_) (fun y hy => ?_))
  | (have hly : y.1 < K := (by have := of_decide_eq_true (show decide (((y.1 + 1 : Nat) : Int) ≤ (K : Int)) = true from hc); omega); refine Exists.elim (at_drop iD (findV (starN (cL cs x.1))) (y.1 + 1) (by omega)) (fun v hv => ?_); refine Exists.elim (at_drop iD (findV (starN (cL cs x.1))) 1 (by omega)) (fun u hu => ?_); have g4 := hv.2.1; have g5 := hu.2.1; simp only [Int.toNat_natCast] at g4 g5; have g6 := star_same hco (cL_get cs (show y.1 < x.1 by omega)) (cL_get cs (show 0 < x.1 by omega)) hv.2.2.1 hu.2.2.1; simp only [Nat.zero_add] at g6; replace hc : True := trivial)
  | simp only [f3r0, f3r1, f3r2, f3r3, f3r5, f3r6, f3r7, f3r8, f3r9, f3r10, f3r11, f3r12, f3r13, f3r14, f3r15, f3r16, f3r17, f3r18, f3r19, f3r20, f3r21, f3r22, g1, g2, g3, g4, g5, g6, g7, f3k, List.length_map, stO_len, stS_len, stT_len, stM_len, cL_len, mset_len, rovO, Int.toNat_natCast, sealBS, sealBO, sealBV, sealBL, beq_self_eq_true, Bool.not_true, List.getElem?_cons_zero, List.getElem?_cons_succ, runG_nil, runG_u, runG_g, runG_ucS, runG_gcS, runG_uvS, stp, avL, avS, evs, evX, lget, lput, strip, putO, PO.dst, updO, okR, cells, splice, AV.cell, toD, toDs, binV, sameK, pickV, guardOf, okL_nil, sides, argsOf, rawOf, dv, dvL, owns, ownsL, flat, flatL, lkeep, seqQ, blockQ, initS, List.drop_succ_cons, List.drop_zero, List.take_succ_cons, List.take_zero, List.getD_cons_zero, List.getD_cons_succ, List.length_cons, List.length_nil, List.set_cons_zero, List.set_cons_succ, List.map_cons, List.map_nil, List.all_cons, List.all_nil, List.elem_cons, List.elem_nil, Option.getD_some, Option.getD_none, Option.bind_some, Option.isNone_none, reduceIte, reduceCtorEq, Nat.reduceEqDiff, Nat.reduceAdd, Nat.reduceLeDiff, Nat.zero_add, Nat.add_zero, Nat.reduceBEq, Bool.and_self, Bool.and_true, Bool.true_and, Bool.or_self, Bool.or_false, Bool.false_or, Bool.or_true, Bool.true_or, true_and, and_true, and_self, implies_true, forall_const, Bool.false_eq_true, id_eq, retQ, resOf, resV, Option.some.injEq, exists_eq_left', AV.d.injEq, D.v.injEq, Value.bool.injEq, imp_self, bldF, bldS, toVals, eqLs, Option.map_some, imp_false, not_true_eq_false, not_false_eq_true, foot, wrs, nm, nmL, PG.reads, PG.dst, PO.reads, X.sl, sls, slB, List.append_nil, List.cons_append, List.nil_append, Option.toList_some, Option.toList_none, loopQ_exit, loopQ_ret, subS, subO, Bool.bne_false, Bool.bne_true, elemsOf, bslD, bslS, mentries, isAgV, asA, lputs, mgetD_set, mcmp_set, mput_set, List.headD_cons, sealS, sealO, sealV, sealL, mput_nil, mcmp_nil, midQ_ret, midQ_exit, sealsS, sealsO, runW_nil, runW_cons, Bool.true_bne, Bool.false_bne, bne_self_eq_false, Int.reduceToNat, bndV, oSl, resR, runS_nil, runS_gc, ren, renL, renO, sg, gBack, scopeQ_normal, scopeQ_ret, scopeQ_exit, lenB, argsN, dvN]
  all_goals try first
    | omega
    | (with_reducible rfl)
    | exact count64 (n := K + 1) (by omega) (by omega)
    | (show Value.int _ 1 = _; rfl)
    | exact row_eq (by rw [cL_snoc, stO_snoc])
    | exact row_eq (by rw [cL_snoc, stS_snoc])
    | exact rov_eq (by rw [cL_snoc, stT_snoc])
    | exact map_eq (by rw [cL_snoc, setL_snoc])
    | exact row_eq (by rw [cL_snoc]; exact stM_snoc _ _ (by rw [cL_len]; rfl))
    | (show AO.row _ _ _ _ = _; rfl)
    | (show AO.rov _ _ _ _ _ = _; rfl)
    | (show AO.map _ _ _ = _; rfl)
  all_goals trace_state

theorem refineStar_as (av : List AV) (h : dArgs te 8 [5, 22] av) : FnS Try.prog 3 av (.d (.v (.bool true))) := by
  obtain ⟨x, _, rfl, hx, y, _, rfl, hy, rfl⟩ := h
  obtain ⟨n, rfl, hn⟩ := u8_row (n := 7) hx
  obtain ⟨cs, rfl, hcs⟩ := u8s_of (n := 6) hy
  exact refineStar_fn n hn cs hcs

set_option maxRecDepth 100000 in
theorem refineStar_lifted (os : Os) (started : os.Started) (H : Type) (enc : TypeId × Value → H) :
    ReturnsInHanded {} Try.checked os 3 .any (Rows.refineStarSpec.pre6 enc Try.prog Try.f3 Rows.refineStarRow.domain false) (Rows.refineStarSpec.post enc Try.prog Try.f3 false true false false) := by
  refine returnsInHanded_of_change (C := Try.checked) own started (by kernel_rfl) Try.func3
    (ChangeSpec.witness6 (enc := enc) (C := Try.checked) false ⟨#[], #[.int .u8 0, .slice none 0 0], []⟩ 8 (by kernel_rfl) (by kernel_rfl) (by kernel_rfl) (by kernel_rfl)) ?_
  intro W base args ds gs before hval hW hcnd _
  have hp : Try.f3.params.toList = [5, 22] := by kernel_rfl
  refine law_calls (n := 8) (b := 4) laidOut (by rw [hp]; exact List.forall_mem_cons.2 ⟨⟨by kernel_rfl, of_decide_eq_true (by kernel_rfl)⟩, List.forall_mem_cons.2 ⟨⟨by kernel_rfl, of_decide_eq_true (by kernel_rfl)⟩, (by simp)⟩⟩) (by rw [hp]; exact List.forall_mem_cons.2 ⟨by kernel_rfl, List.forall_mem_cons.2 ⟨by kernel_rfl, (by simp)⟩⟩) rfl (by kernel_rfl) (by kernel_rfl) (fun ds hd => ?_) hval hW (GX.nil _) (fun av h => refineStar_as av (argsT_d teok _ _ _ (by rw [hp]; exact List.forall_mem_cons.2 ⟨rfl, List.forall_mem_cons.2 ⟨rfl, (by simp)⟩⟩) h |> (hp ▸ ·)))
  have hd : ds.length = 2 := hd
  match ds, hd with
  | [_, _], _ => rfl
theorem refineStar_holds : Rows.RefineStarSaid :=
  OpenClaim.holds_of_wide 3 Try.f3 rfl rfl rfl rfl rfl rfl rfl ⟨rfl, rfl, rfl, rfl, rfl⟩ rfl rfl rfl rfl rfl (by kernel_rfl) Try.func3 (by kernel_rfl)
    (of_decide_eq_true (by kernel_rfl)) (by unfold Func.isWrapper; first | (rw [if_pos (by decide +kernel)]; kernel_rfl) | (rw [if_neg (by decide +kernel)]; exact ⟨rfl, rfl⟩))
    (fun os started H enc _ => refineStar_lifted os started H enc)
end Go.Proofs.Ytokfackbnnkbnaa

