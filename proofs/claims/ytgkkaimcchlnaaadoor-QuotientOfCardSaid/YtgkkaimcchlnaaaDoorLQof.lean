/- The law QuotientOf: whatever the input, it returns true and changes nothing; where errors.errorType holds what the program's text lays it to. Printed by a program of this project (wip/mq). -/
import Derived.Test.YtgkkaimcchlnaaaDoorNetF
import Derived.Test.YtgkkaimcchlnaaaDoorArgsS
import Derived.Test.YtgkkaimcchlnaaaDoorOf
import Derived.Test.YtgkkaimcchlnaaaDoorQ18
import Derived.Test.YtgkkaimcchlnaaaDoorSm18
import Derived.Test.YtgkkaimcchlnaaaDoorSame13
import Derived.Test.YtgkkaimcchlnaaaDoorNum
import Derived.Test.YtgkkaimcchlnaaaDoorCard
set_option linter.unusedVariables false
set_option linter.unusedSimpArgs false

namespace Go.Proofs.YtgkkaimcchlnaaaDoor
open Go Mq Go.ChangeShapes Go.WideShapes Go.ChangeAt Go.RowKit
/-! maquette/maquettelaw18.QuotientOf -/
def f3r0 : List PG := [.u (.bx 3 (.t 0)), .u (.mv 6 (.k (.bool false)))]
def f3r1 : List PG := [.uc 20 4 [], .u (.no 21 (.t 20))]
def f3r2 : List PG := [.u (.mv 6 (.k (.bool false)))]
abbrev f3p0 : PC := .seq (.reg f3r2) (.ret)
abbrev f3p1 : PC := .cond (.t 21) (f3p0) (.skip)
def f3r3 : List PG := [.u (.ld 23 6 true (.t 3)), .u (.mv 24 (.t 1)), .uc 25 5 [.t 23, .t 24], .u (.mv 22 (.t 25)), .u (.ext 26 (.t 22) 0), .u (.ext 27 (.t 22) 1), .u (.ext 28 (.t 22) 2), .u (.al 7 [.nl 1, .nl 1, .nl 1]), .u (.al 8 [.d (.v (.int .u32 0)), .d (.v (.int .i64 0))]), .u (.st 3 (.t 7) (.t 26)), .u (.st 2 (.t 8) (.t 27)), .u (.mv 9 (.t 28))]
def f3r4 : List PG := [.u (.mv 29 (.t 9)), .u (.no 30 (.t 29))]
def f3r5 : List PG := [.u (.mv 6 (.k (.bool true)))]
abbrev f3p2 : PC := .seq (.reg f3r5) (.ret)
abbrev f3p3 : PC := .cond (.t 30) (f3p2) (.skip)
def f3r6 : List PG := [.u (.ld 32 3 true (.t 7)), .uc 33 6 [.t 32], .u (.mv 31 (.t 33)), .u (.ext 34 (.t 31) 0), .u (.ext 35 (.t 31) 1), .u (.mv 10 (.t 34)), .u (.mv 11 (.t 35))]
def f3r7 : List PG := [.u (.mv 36 (.t 11)), .u (.beqn 37 true (.t 36))]
def f3r8 : List PG := [.u (.mv 6 (.k (.bool false)))]
abbrev f3p4 : PC := .seq (.reg f3r8) (.ret)
abbrev f3p5 : PC := .cond (.t 37) (f3p4) (.skip)
def f3r9 : List PG := [.u (.mv 38 (.t 10)), .u (.len 39 (.t 38)), .u (.mks 40 3 1 8 [.d (.v (.int .i64 0))] (.t 39)), .u (.mv 12 (.t 40))]
def f3r10 : List PG := [.u (.mv 41 (.t 12)), .u (.len 42 (.t 41)), .u (.mv 43 (.k (.int .i64 0)))]
def f3r11 : List PG := [.u (.bo 44 .lss (.t 43) (.t 42))]
def f3r12 : List PG := [.u (.mv 45 (.t 43)), .u (.mv 13 (.t 45))]
def f3r13 : List PG := [.u (.mv 46 (.t 13)), .u (.mv 47 (.t 2)), .u (.len 48 (.t 47)), .u (.bo 49 .lss (.t 46) (.t 48))]
def f3r14 : List PG := [.u (.mv 50 (.t 12)), .u (.mv 51 (.t 13)), .u (.mv 52 (.t 2)), .u (.mv 53 (.t 13)), .u (.ia 54 1 (.t 52) (.t 53)), .u (.ld 55 1 false (.t 54)), .u (.cv 56 .i64 (.t 55)), .u (.ia 57 1 (.t 50) (.t 51)), .u (.st 1 (.t 57) (.t 56))]
abbrev f3p6 : PC := .cond (.t 49) (.reg f3r14) (.skip)
abbrev f3p7 : PC := .seq (.reg f3r13) (f3p6)
def f3r15 : List PG := [.u (.bo 58 .add (.t 43) (.k (.int .i64 1))), .u (.mv 43 (.t 58))]
abbrev f3p8 : PC := .seq (.block 1 (.seq (.reg f3r12) (f3p7))) (.reg f3r15)
abbrev f3p9 : PC := .seq (.cond (.t 44) (.skip) (.exit 0)) (f3p8)
abbrev f3p10 : PC := .seq (.reg f3r11) (f3p9)
abbrev f3p11 : PC := .block 0 (.loop (f3p10))
def f3r16 : List PG := [.u (.mv 59 (.t 10)), .u (.mv 60 (.t 12)), .u (.mv 61 (.t 10)), .u (.mv 62 (.t 10)), .u (.len 63 (.t 62)), .u (.bo 64 .sub (.t 63) (.k (.int .i64 1))), .u (.slc 65 1 (.t 61) none (some (.t 64))), .u (.bsl 66 38 1 [.t 59, .t 60, .t 65]), .u (.len 67 (.t 66)), .u (.mv 68 (.k (.int .i64 0)))]
def f3r17 : List PG := [.u (.bo 69 .lss (.t 68) (.t 67))]
def f3r18 : List PG := [.u (.ia 70 1 (.t 66) (.t 68)), .u (.ld 71 1 false (.t 70)), .u (.mv 15 (.t 71))]
def f3r19 : List PG := [.u (.ld 73 3 true (.t 7)), .u (.mv 74 (.t 15)), .uc 75 7 [.t 73, .t 74], .u (.mv 72 (.t 75)), .u (.ext 76 (.t 72) 0), .u (.ext 77 (.t 72) 1), .u (.al 16 [.nl 1, .nl 1, .nl 1]), .u (.st 3 (.t 16) (.t 76)), .u (.mv 17 (.t 77))]
def f3r20 : List PG := [.u (.ld 79 3 true (.t 7)), .u (.mv 80 (.t 15)), .uc 81 8 [.t 79, .t 80], .u (.mv 78 (.t 81)), .u (.ext 82 (.t 78) 0), .u (.ext 83 (.t 78) 1), .u (.al 18 [.nl 1, .nl 1, .nl 1]), .u (.st 3 (.t 18) (.t 82)), .u (.mv 19 (.t 83))]
def f3r21 : List PG := [.u (.mv 84 (.t 19)), .u (.no 85 (.t 84)), .u (.mv 86 (.t 85)), .g 86 true (.mv 87 (.t 17)), .gc 86 true 88 9 [.t 87], .g 86 true (.beq 89 true false (.t 88) (.k (.int .i64 10))), .g 86 true (.mv 90 (.t 89)), .g 90 false (.fa 91 0 (.t 16)), .g 90 false (.ld 92 1 false (.t 91)), .g 90 false (.len 93 (.t 92)), .g 90 false (.beq 94 true false (.t 93) (.k (.int .i64 0))), .g 86 true (.pick 95 (.t 90) (.k (.bool true)) (.t 94)), .u (.pick 96 (.t 86) (.t 95) (.k (.bool false))), .u (.mv 97 (.t 96)), .g 97 false (.mv 98 (.t 19)), .g 97 false (.mv 99 (.t 98)), .g 99 true (.mv 100 (.t 17)), .g 99 true (.beqn 101 true (.t 100)), .g 99 true (.mv 102 (.t 101)), .g 102 false (.ld 103 3 true (.t 16)), .g 102 false (.ld 104 3 true (.t 18)), .gc 102 false 105 10 [.t 103, .t 104], .g 102 false (.no 106 (.t 105)), .g 99 true (.pick 107 (.t 102) (.k (.bool true)) (.t 106)), .g 97 false (.pick 108 (.t 99) (.t 107) (.k (.bool false))), .u (.pick 109 (.t 97) (.k (.bool true)) (.t 108))]
def f3r22 : List PG := [.u (.mv 6 (.k (.bool false)))]
abbrev f3p12 : PC := .seq (.reg f3r22) (.ret)
abbrev f3p13 : PC := .cond (.t 109) (f3p12) (.skip)
abbrev f3p14 : PC := .seq (.reg f3r21) (f3p13)
abbrev f3p15 : PC := .seq (.reg f3r20) (f3p14)
abbrev f3p16 : PC := .seq (.reg f3r19) (f3p15)
def f3r23 : List PG := [.u (.bo 110 .add (.t 68) (.k (.int .i64 1))), .u (.mv 68 (.t 110))]
abbrev f3p17 : PC := .seq (.block 3 (.seq (.reg f3r18) (f3p16))) (.reg f3r23)
abbrev f3p18 : PC := .seq (.cond (.t 69) (.skip) (.exit 2)) (f3p17)
abbrev f3p19 : PC := .seq (.reg f3r17) (f3p18)
abbrev f3p20 : PC := .block 2 (.loop (f3p19))
def f3r24 : List PG := [.u (.mv 6 (.k (.bool true)))]
abbrev f3p21 : PC := .seq (.reg f3r24) (.ret)
abbrev f3p22 : PC := .seq (.seq (.reg f3r16) (f3p20)) (f3p21)
abbrev f3p23 : PC := .seq (.seq (.reg f3r10) (f3p11)) (f3p22)
abbrev f3p24 : PC := .seq (.reg f3r9) (f3p23)
abbrev f3p25 : PC := .seq (.seq (.reg f3r7) (f3p5)) (f3p24)
abbrev f3p26 : PC := .seq (.reg f3r6) (f3p25)
abbrev f3p27 : PC := .seq (.seq (.reg f3r4) (f3p3)) (f3p26)
abbrev f3p28 : PC := .seq (.reg f3r3) (f3p27)
abbrev f3p29 : PC := .seq (.seq (.reg f3r1) (f3p1)) (f3p28)
abbrev f3pc : PC := .seq (.reg f3r0) (f3p29)
def f3k : List Nat := [0, 1, 2, 3, 6, 7, 9, 10, 11, 12, 13, 15, 16, 17, 18, 19, 21, 30, 37, 42, 43, 44, 49, 66, 67, 68, 69, 109]
theorem f3c : Tryd.f3.body.bind (cC te Tryd.f3.ntmps) = some f3pc := by kernel_rfl
set_option maxRecDepth 20000
set_option maxHeartbeats 4000000
set_option linter.unusedSimpArgs false
set_option linter.unusedVariables false

theorem quot_ok {n : Net} {b : List Int} {x : Net} (hn : n.ok) (h : n.quot b = some x) : x.ok := by
  cases hf : n.firsts b with
  | none => rw [quot_noF hf] at h; cases h
  | some fs =>
    have hv : ∀ (i : Nat) f, fs[i]? = some f → n.via b f ≠ i := fun i f hi q => by rw [quot_no hf hi q] at h; cases h
    rw [quot_mid hf hv] at h
    cases h
    obtain ⟨m, hbl, hfl, hfr⟩ := Net.firsts_spec hf
    have hb := hn.origin
    have hrow : ∀ es ∈ midE n b fs fs.length, ∃ es0 ∈ n.edges, ∃ v, es = (selE b v es0).map (reB b) := fun es he => by
      rw [midE_end n b fs (Nat.le_refl _)] at he
      obtain ⟨i, hi⟩ := List.getElem?_of_mem he
      rw [qEs_get, Option.map_eq_some_iff] at hi
      obtain ⟨f, hf2, rfl⟩ := hi
      have hr := hfr f (List.mem_of_getElem? hf2)
      have me := m.edges
      exact ⟨_, List.mem_of_getElem? (some_getD [] (show f.toNat < n.edges.length by omega)), _, quot_sel b _ _⟩
    refine ⟨by simp only [List.length_map]; omega, by rw [midS_len]; omega, by rw [midE_len]; omega, fun es he => ?_, fun es he a ha => ?_⟩
    · obtain ⟨es0, h0, v, rfl⟩ := hrow es he
      rw [List.length_map]
      exact Nat.le_trans (selE_len b v es0) (hn.row es0 h0)
    · obtain ⟨es0, h0, v, rfl⟩ := hrow es he
      obtain ⟨a0, ha0, rfl⟩ := List.mem_map.1 ha
      have := hn.edge es0 h0 a0 (selE_sub ha0)
      exact ⟨this.exp, this.imp⟩
abbrev i8D (n : Int) : List D := [.v (.int .i8 n)]
def owV (raw : List Int) (i : Nat) : Int := if i < raw.length then raw.getD i 0 else 0
def owL (raw : List Int) (N k : Nat) : List Int := (List.range N).map fun j => if j < k then owV raw j else 0
theorem owL_len (raw : List Int) (N k : Nat) : (owL raw N k).length = N := by simp [owL]
theorem ow_zero (raw : List Int) (N : Nat) : List.replicate N [D.v (.int .i64 0)] = (owL raw N 0).map iD := by
  apply List.ext_getElem?
  intro k
  simp only [owL, List.getElem?_map, List.getElem?_replicate]
  by_cases h : k < N <;> simp [h]
theorem ow_set {raw : List Int} {N k : Nat} (h : k < N) : (owL raw N k).set k (owV raw k) = owL raw N (k + 1) := by
  apply List.ext_getElem?
  intro i
  by_cases hi : i = k
  · subst hi; simp [owL, h]
  · rw [List.getElem?_set_ne (Ne.symm hi)]
    simp only [owL, List.getElem?_map]
    by_cases h2 : i < N
    · simp only [List.getElem?_range h2, Option.map_some]
      by_cases h3 : i < k
      · rw [if_pos h3, if_pos (by omega)]
      · rw [if_neg h3, if_neg (by omega)]
    · simp [h2]
theorem ow_skip {raw : List Int} {N k : Nat} (h : ¬ k < raw.length) : owL raw N k = owL raw N (k + 1) := by
  unfold owL
  refine List.map_congr_left fun j _ => ?_
  by_cases h1 : j < k
  · rw [if_pos h1, if_pos (by omega)]
  · rw [if_neg h1]
    by_cases h2 : j < k + 1
    · have : j = k := by omega
      subst this
      rw [if_pos h2]; unfold owV; rw [if_neg h]
    · rw [if_neg h2]
theorem ow_put {e s g : Nat} {raw : List Int} {N k : Nat} (h : k < N) (hr : k < raw.length) : AO.row e s g (((owL raw N k).map iD).set k [.v (.int .i64 (raw.getD k 0))]) = AO.row e s g ((owL raw N (k + 1)).map iD) := by
  have : raw.getD k 0 = owV raw k := by unfold owV; rw [if_pos hr]
  rw [this, show [D.v (.int .i64 (owV raw k))] = iD (owV raw k) from rfl, ← List.map_set, ow_set h]
abbrev bsD (c : List Int) : List D := [.sl 1 (c.map iD)]
theorem cs_row {e g k : Nat} {b o : List Int} {Cs : List (List Int)} (h : Cs = [b, o, b.take k]) : AO.row e 1 g [[.sl 1 (b.map iD)], [.sl 1 (o.map iD)], [.sl 1 ((b.map iD).take k)]] = AO.row e 1 g (Cs.map bsD) := by
  subst h
  rw [← List.map_take]
  exact rfl
theorem i8s_of {n : Nat} {x : List D} (h : dT te (n + 2) 26 x) : ∃ l : List Int, x = [.sl 1 (l.map i8D)] ∧ l.length ≤ maxLen ∧ ∀ v ∈ l, -128 ≤ v ∧ v ≤ 127 := by
  rw [dT] at h
  simp only [te26, te43] at h
  obtain ⟨l, rfl, hm, hl⟩ := h
  obtain ⟨rs, rfl, hr⟩ := rows_ofQ i8D _ _ (fun x hx => i8_row hx) l (fun x hx => (hl x hx).2)
  exact ⟨rs, rfl, by simpa using hm, hr⟩

theorem quotientOf_none (s1 : Shape) (h1 : s1.ok) (w : Int) (hw : 0 ≤ w ∧ w ≤ 255) (raw : List Int) (hrl : raw.length ≤ maxLen) (hraw : ∀ v ∈ raw, -128 ≤ v ∧ v ≤ 127) (hx : s1.netV w = none) : FnS Tryd.prog 3 [s1.av, .d (.v (.int .u8 w)), .d (.sl 1 (raw.map i8D))] (.d (.v (.bool true))) := by
  have hN := netOfF_fn s1 h1 w hw
  rw [hx] at hN
  simp only [netA] at hN
  refine fn_of teok Tryd.func3 (by kernel_rfl) f3c f3k [.tmp 6] rfl (by show 3 ≤ 111; omega) ?_
  repeat' first
  | (exact absurd hc (by decide))
  | with_reducible refine awp_seq ?_
  | with_reducible refine awp_block ?_
  | with_reducible refine awp_scope ?_
  | with_reducible refine awp_reg ?_
  | with_reducible refine awp_regD ?_
  | with_reducible refine awp_ret ?_
  | with_reducible refine awp_skip ?_
  | with_reducible refine awp_exit ?_
  | with_reducible refine normQ_of ?_
  | with_reducible refine wkE_of ?_
  | with_reducible refine midQ_of (Wk_sub rfl rfl ?_ ?_)
  | with_reducible refine runD_nil ?_
  | with_reducible refine runD_cons ?_
  | with_reducible refine runF_cons ?_
  | with_reducible refine runF_nil ?_
  | with_reducible refine KF_of ?_
  | with_reducible refine chkQ_of rfl ?_
  | with_reducible refine awp_cond (by simp only [evX, lget, Option.getD_some, reduceIte, Nat.reduceEqDiff]; rfl) (fun hc => ?_) (fun hc => ?_)
  | with_reducible refine CallU_of (f := 4) (awake18_fn) (by first | exact Or.inr (Or.inl rfl) | exact Or.inl rfl) ?_
  | with_reducible refine CallC_of (f := 4) (fun _ => awake18_fn) (by first | exact Or.inr (Or.inl rfl) | exact Or.inl rfl) ?_
  | with_reducible refine CallU_of (f := 5) (hN) (by first | exact Or.inr (Or.inl rfl) | exact Or.inl rfl) ?_
  | with_reducible refine CallC_of (f := 5) (fun _ => hN) (by first | exact Or.inr (Or.inl rfl) | exact Or.inl rfl) ?_
  | (with_reducible assumption)
  | with_reducible refine fun (hG : okL _) => ?_
  | (with_reducible refine fun (hT : (_ : Bool) = _) => ?_)
  | (with_reducible first | exact hG.2 | exact hG.2.2 | exact hG.2.2.2 | exact hG.2.2.2.2)
  | with_reducible refine okL_mk ?_ ?_
  | with_reducible refine And.intro ?_ ?_
  | simp only [f3r0, f3r1, f3r2, f3r3, f3r4, f3r5, f3r6, f3r7, f3r8, f3r9, f3r10, f3r11, f3r12, f3r13, f3r14, f3r15, f3r16, f3r17, f3r18, f3r19, f3r20, f3r21, f3r22, f3r23, f3r24, f3k, te32, te35, te25, List.getElem?_cons_zero, List.getElem?_cons_succ, runG_nil, runG_u, runG_g, runG_ucS, runG_gcS, runG_uvS, stp, avL, avS, evs, evX, lget, lput, strip, putO, PO.dst, updO, okR, cells, splice, AV.cell, toD, toDs, binV, sameK, pickV, guardOf, okL_nil, sides, argsOf, rawOf, dv, dvL, owns, ownsL, flat, flatL, lkeep, seqQ, blockQ, initS, List.drop_succ_cons, List.drop_zero, List.take_succ_cons, List.take_zero, List.getD_cons_zero, List.getD_cons_succ, List.length_cons, List.length_nil, List.set_cons_zero, List.set_cons_succ, List.map_cons, List.map_nil, List.all_cons, List.all_nil, List.elem_cons, List.elem_nil, Option.getD_some, Option.getD_none, Option.bind_some, Option.isNone_none, reduceIte, reduceCtorEq, Nat.reduceEqDiff, Nat.reduceAdd, Nat.reduceLeDiff, Nat.zero_add, Nat.add_zero, Nat.reduceBEq, Bool.and_self, Bool.and_true, Bool.true_and, Bool.or_self, Bool.or_false, Bool.false_or, Bool.or_true, Bool.true_or, true_and, and_true, and_self, implies_true, forall_const, Bool.false_eq_true, id_eq, retQ, resOf, resV, Option.some.injEq, exists_eq_left', AV.d.injEq, D.v.injEq, Value.bool.injEq, imp_self, bldF, bldS, toVals, eqLs, Option.map_some, imp_false, not_true_eq_false, not_false_eq_true, foot, wrs, nm, nmL, PG.reads, PG.dst, PO.reads, X.sl, sls, slB, List.append_nil, List.cons_append, List.nil_append, Option.toList_some, Option.toList_none, loopQ_exit, loopQ_ret, subS, subO, Bool.bne_false, Bool.bne_true, elemsOf, bslD, bslS, mentries, isAgV, asA, lputs, mgetD_set, mcmp_set, mput_set, List.headD_cons, sealS, sealO, sealV, sealL, mput_nil, mcmp_nil, midQ_ret, midQ_exit, sealsS, sealsO, runW_nil, runW_cons, Bool.true_bne, Bool.false_bne, bne_self_eq_false, Int.reduceToNat, bndV, oSl, resR, runS_nil, runS_gc, ren, renL, renO, sg, gBack, scopeQ_normal, scopeQ_ret, scopeQ_exit, lenB, argsN, dvN]
  all_goals first
    | rfl
    | decide
    | trace_state
theorem quotientOf_go (s1 : Shape) (h1 : s1.ok) (w : Int) (hw : 0 ≤ w ∧ w ≤ 255) (raw : List Int) (hrl : raw.length ≤ maxLen) (hraw : ∀ v ∈ raw, -128 ≤ v ∧ v ≤ 127) (n : Net) (p : Int × Int) (hx : s1.netV w = some (n, p)) : FnS Tryd.prog 3 [s1.av, .d (.v (.int .u8 w)), .d (.sl 1 (raw.map i8D))] (.d (.v (.bool true))) := by
  have hm : maxLen = 9223372036854775807 := rfl
  have hN := netOfF_fn s1 h1 w hw
  rw [hx] at hN
  simp only [netA] at hN
  obtain ⟨hsm, hmay, nm, hnl, hn0⟩ := net_facts hx
  simp only at hsm hmay nm hnl hn0
  have hR := rof_yes n hsm hmay
  have hfs := find_spec nm
  have hl := hfs.1.len
  have hn64 := nm.most
  have hS0 : FnS Tryd.prog 10 [.ag [.d (.sl 1 []), .d (.sl 1 []), .d (.sl 1 [])], .ag [.d (.sl 1 []), .d (.sl 1 []), .d (.sl 1 [])]] (.d (.v (.bool true))) := same_self ⟨[], [], []⟩ ⟨by simp [hm], by simp [hm], by simp [hm], by simp, by simp⟩
  generalize findV n = b at hR hl
  have g0 : IntKind.i64.wrap ((b.length : Int) - 1) = ((b.length - 1 : Nat) : Int) := by rw [wrapI64 _ (by omega) (by omega)]; omega
  refine fn_of teok Tryd.func3 (by kernel_rfl) f3c f3k [.tmp 6] rfl (by show 3 ≤ 111; omega) ?_
  first | (have _q := @g0; clear _q) | have g0 : Nat.pred 77 = 76 := rfl
  first | (have _q := @g1; clear _q) | have g1 : Nat.pred 77 = 76 := rfl
  first | (have _q := @g2; clear _q) | have g2 : Nat.pred 77 = 76 := rfl
  first | (have _q := @g3; clear _q) | have g3 : Nat.pred 77 = 76 := rfl
  first | (have _q := @g4; clear _q) | have g4 : Nat.pred 77 = 76 := rfl
  repeat' first
  | (exact absurd hc (by decide))
  | (with_reducible refine awp_exit_seal (i := 0) [40] ?_)
  | with_reducible refine awp_seq ?_
  | with_reducible refine awp_block ?_
  | with_reducible refine awp_scope ?_
  | with_reducible refine awp_reg ?_
  | with_reducible refine awp_regD ?_
  | with_reducible refine awp_ret ?_
  | with_reducible refine awp_skip ?_
  | with_reducible refine awp_exit ?_
  | with_reducible refine normQ_of ?_
  | with_reducible refine wkE_of ?_
  | with_reducible refine midQ_of (Wk_sub rfl rfl ?_ ?_)
  | with_reducible refine runD_nil ?_
  | with_reducible refine runD_cons ?_
  | with_reducible refine runF_cons ?_
  | with_reducible refine runF_nil ?_
  | with_reducible refine KF_of ?_
  | with_reducible refine chkQ_of rfl ?_
  | with_reducible refine awp_cond (by simp only [evX, lget, Option.getD_some, reduceIte, Nat.reduceEqDiff]; rfl) (fun hc => ?_) (fun hc => ?_)
  | with_reducible refine CallU_of (f := 4) (awake18_fn) (by first | exact Or.inr (Or.inl rfl) | exact Or.inl rfl) ?_
  | with_reducible refine CallC_of (f := 4) (fun _ => awake18_fn) (by first | exact Or.inr (Or.inl rfl) | exact Or.inl rfl) ?_
  | with_reducible refine CallU_of (f := 5) (hN) (by first | exact Or.inr (Or.inl rfl) | exact Or.inl rfl) ?_
  | with_reducible refine CallC_of (f := 5) (fun _ => hN) (by first | exact Or.inr (Or.inl rfl) | exact Or.inl rfl) ?_
  | with_reducible refine CallU_of (f := 6) (hR) (by first | exact Or.inr (Or.inl rfl) | exact Or.inl rfl) ?_
  | with_reducible refine CallC_of (f := 6) (fun _ => hR) (by first | exact Or.inr (Or.inl rfl) | exact Or.inl rfl) ?_
  | with_reducible refine CallU_of (f := 7) (hQ) (by first | exact Or.inr (Or.inl rfl) | exact Or.inl rfl) ?_
  | with_reducible refine CallC_of (f := 7) (fun _ => hQ) (by first | exact Or.inr (Or.inl rfl) | exact Or.inl rfl) ?_
  | with_reducible refine CallU_of (f := 8) (hS) (by first | exact Or.inr (Or.inl rfl) | exact Or.inl rfl) ?_
  | with_reducible refine CallC_of (f := 8) (fun _ => hS) (by first | exact Or.inr (Or.inl rfl) | exact Or.inl rfl) ?_
  | with_reducible refine CallU_of (f := 9) (number_hit 10) (by first | exact Or.inr (Or.inl rfl) | exact Or.inl rfl) ?_
  | with_reducible refine CallC_of (f := 9) (fun _ => number_hit 10) (by first | exact Or.inr (Or.inl rfl) | exact Or.inl rfl) ?_
  | with_reducible refine CallU_of (f := 9) (number_nil) (by first | exact Or.inr (Or.inl rfl) | exact Or.inl rfl) ?_
  | with_reducible refine CallC_of (f := 9) (fun _ => number_nil) (by first | exact Or.inr (Or.inl rfl) | exact Or.inl rfl) ?_
  | with_reducible refine CallU_of (f := 10) (hSS) (by first | exact Or.inr (Or.inl rfl) | exact Or.inl rfl) ?_
  | with_reducible refine CallC_of (f := 10) (fun _ => hSS) (by first | exact Or.inr (Or.inl rfl) | exact Or.inl rfl) ?_
  | with_reducible refine CallU_of (f := 10) (hS0) (by first | exact Or.inr (Or.inl rfl) | exact Or.inl rfl) ?_
  | with_reducible refine CallC_of (f := 10) (fun _ => hS0) (by first | exact Or.inr (Or.inl rfl) | exact Or.inl rfl) ?_
  | (with_reducible assumption)
  | with_reducible refine fun (hG : okL _) => ?_
  | (with_reducible refine fun (hT : (_ : Bool) = _) => ?_)
  | (with_reducible first | exact hG.2 | exact hG.2.2 | exact hG.2.2.2 | exact hG.2.2.2.2)
  | with_reducible refine okL_mk ?_ ?_
  | with_reducible refine And.intro ?_ ?_
  | (with_reducible refine loopQ_next ((x1.1 + 1, ())) ?_ ?_ (Wk_sub rfl rfl ?_ ?_))
  | (with_reducible refine loopQ_next ((z.1 + 1, (), ())) ?_ ?_ (Wk_sub rfl rfl ?_ ?_))
  | (with_reducible refine awp_loopU (b := f3p10) (fun x1 : Nat × Unit => x1.1 ≤ b.length) (fun x1 => b.length - x1.1) (fun x1 => [(43, .d (.v (.int .i64 x1.1)))]) (fun x1 => [(40, .row 3 1 0 ((owL raw b.length x1.1).map iD))]) ((0, ())) (Nat.zero_le _) (Wk.refl _ _) (Wk_sub rfl rfl ?_ ?_) (fun x1 hx1 => ?_))
  | (have hlt : x1.1 < b.length := Int.ofNat_lt.1 (of_decide_eq_true (show decide ((x1.1 : Int) < (b.length : Int)) = true from hc)); replace hc : True := trivial)
  | (refine Exists.elim (at_drop i8D raw x1.1 (Int.ofNat_lt.1 (of_decide_eq_true (show decide ((x1.1 : Int) < raw.length) = true from hc)))) (fun v hv => ?_); have g1 := hv.2.1; simp only [Int.toNat_natCast] at g1; have hvr := hraw v (List.mem_of_getElem? hv.2.2.1); have g2 : IntKind.i64.wrap v = v := wrapI64 _ (by omega) (by omega); have hrl2 := hv.2.2.2; have hve : raw.getD x1.1 0 = v := gD_some hv.2.2.1; refine Exists.elim (at_drop iD (owL raw b.length x1.1) x1.1 (by rw [owL_len]; exact hlt)) (fun o ho => ?_); have g3 := ho.2.1; simp only [Int.toNat_natCast] at g3; replace hc : True := trivial)
  | (have hrn : ¬ x1.1 < raw.length := (by have := of_decide_eq_false (show decide ((x1.1 : Int) < raw.length) = false from hc); omega); replace hc : True := trivial)
  | (have hend : x1.1 = b.length := (by have := of_decide_eq_false (show decide ((x1.1 : Int) < (b.length : Int)) = false from hc); omega); refine Exists.elim (⟨_, rfl⟩ : ∃ Cs : List (List Int), Cs = [b, owL raw b.length x1.1, b.take (b.length - 1)]) (fun Cs hCs => ?_); have hCl : Cs.length = 3 := (by rw [hCs]; rfl); have hCC : ∀ c ∈ Cs, c.length ≤ 64 := (by intro c hq; rw [hCs] at hq; simp only [List.mem_cons, List.not_mem_nil, or_false] at hq; rcases hq with rfl | rfl | rfl; omega; (rw [owL_len]; omega); (rw [List.length_take]; omega)); replace hc : True := trivial)
  | (with_reducible refine awp_loopU (b := f3p19) (fun z : Nat × Unit × Unit => z.1 ≤ 3) (fun z => 3 - z.1) (fun z => [(68, .d (.v (.int .i64 z.1)))]) (fun z => [(66, .row 38 1 0 (Cs.map bsD))]) ((0, (), ())) (Nat.zero_le _) (Wk.refl _ _) (Wk_sub rfl rfl ?_ ?_) (fun z hz => ?_))
  | (have hz3 : z.1 < 3 := (by have := of_decide_eq_true (show decide ((z.1 : Int) < 3) = true from hc); omega); refine Exists.elim (at_drop bsD Cs z.1 (by omega)) (fun c hq => ?_); have hcl := hCC c (List.mem_of_getElem? hq.2.2.1); have g4 := hq.2.1; simp only [Int.toNat_natCast] at g4; have hQ := quot_fn n hsm.ok c (by omega); have hS := small_fn n hsm.ok c (by omega); replace hc : True := trivial; rcases hqc : n.quot c with _ | y <;> rw [hqc] at hQ hS)
  | (replace hQ : FnS Tryd.prog 7 [n.av, .d (.sl 1 (c.map iD))] (.tp [Net.av ⟨[], [], []⟩, .d (.v (.iface 49 (.int .i64 10)))]) := hQ; replace hS : FnS Tryd.prog 8 [n.av, .d (.sl 1 (c.map iD))] (.tp [Net.av ⟨[], [], []⟩, .d (.v (.bool false))]) := hS; have hqn : True := trivial; clear hqc)
  | (have hSS := same_self y (quot_ok hsm.ok hqc); replace hQ : FnS Tryd.prog 7 [n.av, .d (.sl 1 (c.map iD))] (.tp [y.av, .d (.v .nilIface)]) := hQ; replace hS : FnS Tryd.prog 8 [n.av, .d (.sl 1 (c.map iD))] (.tp [y.av, .d (.v (.bool true))]) := hS; clear hqc)
  | simp only [f3r0, f3r1, f3r2, f3r3, f3r4, f3r5, f3r6, f3r7, f3r8, f3r9, f3r10, f3r11, f3r12, f3r13, f3r14, f3r15, f3r16, f3r17, f3r18, f3r19, f3r20, f3r21, f3r22, f3r23, f3r24, g0, g1, g2, g3, g4, f3k, te32, te35, te25, List.length_map, List.length_replicate, owL_len, Int.toNat_natCast, beq_self_eq_true, List.getElem?_cons_zero, List.getElem?_cons_succ, runG_nil, runG_u, runG_g, runG_ucS, runG_gcS, runG_uvS, stp, avL, avS, evs, evX, lget, lput, strip, putO, PO.dst, updO, okR, cells, splice, AV.cell, toD, toDs, binV, sameK, pickV, guardOf, okL_nil, sides, argsOf, rawOf, dv, dvL, owns, ownsL, flat, flatL, lkeep, seqQ, blockQ, initS, List.drop_succ_cons, List.drop_zero, List.take_succ_cons, List.take_zero, List.getD_cons_zero, List.getD_cons_succ, List.length_cons, List.length_nil, List.set_cons_zero, List.set_cons_succ, List.map_cons, List.map_nil, List.all_cons, List.all_nil, List.elem_cons, List.elem_nil, Option.getD_some, Option.getD_none, Option.bind_some, Option.isNone_none, reduceIte, reduceCtorEq, Nat.reduceEqDiff, Nat.reduceAdd, Nat.reduceLeDiff, Nat.zero_add, Nat.add_zero, Nat.reduceBEq, Bool.and_self, Bool.and_true, Bool.true_and, Bool.or_self, Bool.or_false, Bool.false_or, Bool.or_true, Bool.true_or, true_and, and_true, and_self, implies_true, forall_const, Bool.false_eq_true, id_eq, retQ, resOf, resV, Option.some.injEq, exists_eq_left', AV.d.injEq, D.v.injEq, Value.bool.injEq, imp_self, bldF, bldS, toVals, eqLs, Option.map_some, imp_false, not_true_eq_false, not_false_eq_true, foot, wrs, nm, nmL, PG.reads, PG.dst, PO.reads, X.sl, sls, slB, List.append_nil, List.cons_append, List.nil_append, Option.toList_some, Option.toList_none, loopQ_exit, loopQ_ret, subS, subO, Bool.bne_false, Bool.bne_true, elemsOf, bslD, bslS, mentries, isAgV, asA, lputs, mgetD_set, mcmp_set, mput_set, List.headD_cons, sealS, sealO, sealV, sealL, mput_nil, mcmp_nil, midQ_ret, midQ_exit, sealsS, sealsO, runW_nil, runW_cons, Bool.true_bne, Bool.false_bne, bne_self_eq_false, Int.reduceToNat, bndV, oSl, resR, runS_nil, runS_gc, ren, renL, renO, sg, gBack, scopeQ_normal, scopeQ_ret, scopeQ_exit, lenB, argsN, dvN]
  all_goals try first
    | omega
    | (with_reducible rfl)
    | (show Value.int _ 0 = _; rfl)
    | exact count64 hlt (by omega)
    | exact count64 (n := 3) (by omega) (by omega)
    | (rw [← hve]; exact ow_put hlt hrl2)
    | (rw [ow_skip hrn]; done)
    | (rw [← ow_zero]; done)
    | exact cs_row hCs
    | exact fun q => q.elim
    | (exfalso; revert hG; simp [okL]; done)
    | (simp at hc; done)
  all_goals trace_state

theorem quotientOf_as (av : List AV) (h : dArgs te 8 [25, 5, 26] av) : FnS Tryd.prog 3 av (.d (.v (.bool true))) := by
  obtain ⟨x, _, rfl, hx, y, _, rfl, hy, z, _, rfl, hz, rfl⟩ := h
  obtain ⟨s1, rfl, h1⟩ := shape_of (n := 3) hx
  obtain ⟨w, rfl, hw⟩ := u8_row (n := 7) hy
  obtain ⟨raw, rfl, hrl, hraw⟩ := i8s_of (n := 6) hz
  cases hx : s1.netV w with
  | none => exact quotientOf_none s1 h1 w hw raw hrl hraw hx
  | some x =>
    obtain ⟨n, p⟩ := x
    exact quotientOf_go s1 h1 w hw raw hrl hraw n p hx

set_option maxRecDepth 100000 in
theorem quotientOf_lifted (os : Os) (started : os.Started) (H : Type) (enc : TypeId × Value → H) :
    ReturnsInHanded {} Tryd.checked os 3 .any (fun w args => (Rows.quotientOfSpec.pre enc Tryd.prog Tryd.f3 Rows.quotientOfRow.domain false w args ∧ laidMetH Tryd.prog [("errors.errorType", Rows.laid_errors_errorType)] w) ∧ sizedMet enc Tryd.prog Tryd.f3 (OpenSpec.ofChange Rows.quotientOfSpec) false w args) (Rows.quotientOfSpec.post enc Tryd.prog Tryd.f3 false true false false) := by
  refine returnsInHanded_of_change_and (C := Tryd.checked) (X := fun w _ => laidMetH Tryd.prog [("errors.errorType", Rows.laid_errors_errorType)] w) (fun _ _ _ hh h => h.of_heap hh) own started (by kernel_rfl) Tryd.func3
    (ChangeSpec.witness_at (enc := enc) (C := Tryd.checked) (os := os) (X := fun w _ => laidMetH Tryd.prog [("errors.errorType", Rows.laid_errors_errorType)] w) false (laidWorld os) #[.agg #[.int .u8 0, .slice none 0 0, .slice none 0 0, .slice none 0 0, .slice none 0 0, .slice none 0 0], .int .u8 0, .slice none 0 0] 8 rfl (by kernel_rfl) (by kernel_rfl) (by kernel_rfl) (by kernel_rfl) (by kernel_rfl) (laidWorld_met os _)) ?_
  intro W base args ds gs before hval hW hcnd _ hL _
  have hp : Tryd.f3.params.toList = [25, 5, 26] := by kernel_rfl
  refine law_calls (n := 8) (b := 4) laidOut (by rw [hp]; exact List.forall_mem_cons.2 ⟨⟨by kernel_rfl, of_decide_eq_true (by kernel_rfl)⟩, List.forall_mem_cons.2 ⟨⟨by kernel_rfl, of_decide_eq_true (by kernel_rfl)⟩, List.forall_mem_cons.2 ⟨⟨by kernel_rfl, of_decide_eq_true (by kernel_rfl)⟩, (by simp)⟩⟩⟩) (by rw [hp]; exact List.forall_mem_cons.2 ⟨by kernel_rfl, List.forall_mem_cons.2 ⟨by kernel_rfl, List.forall_mem_cons.2 ⟨by kernel_rfl, (by simp)⟩⟩⟩) rfl (by kernel_rfl) (by kernel_rfl) (fun ds hd => ?_) hval hW (gx_of_cell (handle_of_laid hL)) (fun av h => quotientOf_as av (argsT_d teok _ _ _ (by rw [hp]; exact List.forall_mem_cons.2 ⟨rfl, List.forall_mem_cons.2 ⟨rfl, List.forall_mem_cons.2 ⟨rfl, (by simp)⟩⟩⟩) h |> (hp ▸ ·)))
  have hd : ds.length = 3 := hd
  match ds, hd with
  | [_, _, _], _ => rfl
theorem quotientOf_said : Rows.QuotientOfSaid :=
  OpenClaim.holds_of_wide 3 Tryd.f3 rfl rfl rfl rfl rfl rfl rfl ⟨rfl, rfl, rfl, rfl, rfl⟩ rfl rfl rfl rfl rfl (by kernel_rfl) Tryd.func3 (by kernel_rfl)
    (of_decide_eq_true (by kernel_rfl)) (by unfold Func.isWrapper; first | (rw [if_pos (by decide +kernel)]; kernel_rfl) | (rw [if_neg (by decide +kernel)]; exact ⟨rfl, rfl⟩))
    (fun os started H enc _ => quotientOf_lifted os started H enc)
theorem quotientOf_holds : Rows.QuotientOfCardSaid :=
  holds_tied_goes [.handle] true (true, "53607547666e39e76639e0849620cd27d2a4bc16d024ae968c59ecd0c8d6c3ab") true false
    quotientOf_said (by kernel_rfl) quotientOf_row_tie rfl ⟨rfl, rfl⟩ (by kernel_rfl) rfl
    (fun f fn hf hfn => by
      obtain rfl : f = 3 := (Option.some.inj ((show Tryd.prog.funcNamed Rows.quotientOfRow.func = some 3 by kernel_rfl).symm.trans hf)).symm
      obtain rfl : fn = Tryd.f3 := (Option.some.inj (Tryd.func3.symm.trans hfn)).symm
      exact ⟨by kernel_rfl, fun j t ht => by
        have hp : Tryd.f3.params.toList = [25, 5, 26] := by kernel_rfl
        have hm : t ∈ Tryd.f3.params.toList := by rw [Array.mem_toList_iff]; exact Array.mem_of_getElem? ht
        rw [hp] at hm
        have hall : ∀ t ∈ [25, 5, 26], Tryd.prog.wantsStandIn t = false := List.forall_mem_cons.2 ⟨by kernel_rfl, List.forall_mem_cons.2 ⟨by kernel_rfl, List.forall_mem_cons.2 ⟨by kernel_rfl, (by simp)⟩⟩⟩
        exact hall t hm⟩)
    (by kernel_rfl)
end Go.Proofs.YtgkkaimcchlnaaaDoor

