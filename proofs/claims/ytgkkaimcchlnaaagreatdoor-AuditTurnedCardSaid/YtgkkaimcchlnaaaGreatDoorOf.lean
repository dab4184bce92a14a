/- What refine.Of comes to. Printed by a program of this project (wip/mq). -/
import Derived.Test.YtgkkaimcchlnaaaGreatDoorPart
import Derived.Test.YtgkkaimcchlnaaaGreatDoorMqPl
import Derived.Test.YtgkkaimcchlnaaaGreatDoorMay
import Derived.Test.YtgkkaimcchlnaaaGreatDoorEsame
set_option linter.unusedVariables false
set_option linter.unusedSimpArgs false

namespace Go.Proofs.YtgkkaimcchlnaaaGreatDoor
open Go Mq Go.ChangeShapes Go.WideShapes Go.ChangeAt Go.RowKit
/-! maquette/refine.Of -/
def f31r0 : List PG := [.u (.bx 1 (.t 0)), .u (.mv 2 (.nl 1)), .u (.mv 3 (.k (.nilIface)))]
def f31r1 : List PG := [.u (.ld 13 3 true (.t 1)), .uc 14 42 [.t 13], .u (.no 15 (.t 14))]
def f31r2 : List PG := [.u (.mki 16 95 (.k (.int .i64 10))), .u (.mv 2 (.nl 1)), .u (.mv 3 (.t 16))]
abbrev f31p0 : PC := .seq (.reg f31r2) (.ret)
abbrev f31p1 : PC := .cond (.t 15) (f31p0) (.skip)
def f31r3 : List PG := [.u (.ld 18 3 true (.t 1)), .uc 19 52 [.t 18], .u (.mv 17 (.t 19)), .u (.ext 20 (.t 17) 0), .u (.ext 21 (.t 17) 1), .u (.mv 4 (.t 20)), .u (.mv 5 (.t 21))]
def f31r4 : List PG := [.u (.mv 22 (.t 5)), .u (.beqn 23 true (.t 22))]
def f31r5 : List PG := [.u (.mv 24 (.t 5)), .u (.mv 2 (.nl 1)), .u (.mv 3 (.t 24))]
abbrev f31p2 : PC := .seq (.reg f31r5) (.ret)
abbrev f31p3 : PC := .cond (.t 23) (f31p2) (.skip)
def f31r6 : List PG := [.u (.fa 25 0 (.t 1)), .u (.ld 26 1 false (.t 25)), .u (.len 27 (.t 26)), .u (.mks 28 3 1 8 [.d (.v (.int .i64 0))] (.t 27)), .u (.mv 6 (.t 28))]
def f31r7 : List PG := [.u (.mv 7 (.k (.int .i64 0))), .u (.mv 8 (.k (.int .i64 (-1))))]
def f31r8 : List PG := [.u (.mv 29 (.t 6)), .u (.len 30 (.t 29)), .u (.mv 31 (.k (.int .i64 0)))]
def f31r9 : List PG := [.u (.bo 32 .lss (.t 31) (.t 30))]
def f31r10 : List PG := [.u (.mv 33 (.t 31)), .u (.mv 9 (.t 33))]
def f31r11 : List PG := [.u (.ld 39 3 true (.t 1)), .u (.mv 40 (.t 9)), .uc 41 53 [.t 39, .t 40], .u (.mv 38 (.t 41))]
def f31r12 : List PG := [.u (.mv 42 (.t 6)), .u (.mv 43 (.t 9)), .u (.mv 44 (.t 7)), .u (.ia 45 1 (.t 42) (.t 43)), .u (.st 1 (.t 45) (.t 44))]
def f31r13 : List PG := [.u (.mv 46 (.t 7)), .u (.bo 47 .add (.t 46) (.k (.int .i64 1))), .u (.mv 7 (.t 47))]
abbrev f31p4 : PC := .seq (.reg f31r12) (.reg f31r13)
def f31r14 : List PG := [.u (.mv 49 (.t 8)), .u (.bo 50 .lss (.t 49) (.k (.int .i64 0))), .u (.mv 48 (.t 50))]
def f31r15 : List PG := [.u (.mv 51 (.t 6)), .u (.mv 52 (.t 9)), .u (.mv 53 (.t 7)), .u (.mv 54 (.t 7)), .u (.ia 55 1 (.t 51) (.t 52)), .u (.st 1 (.t 55) (.t 53)), .u (.mv 8 (.t 54))]
def f31r16 : List PG := [.u (.mv 56 (.t 7)), .u (.bo 57 .add (.t 56) (.k (.int .i64 1))), .u (.mv 7 (.t 57))]
abbrev f31p5 : PC := .seq (.reg f31r15) (.reg f31r16)
def f31r17 : List PG := [.u (.mv 34 (.t 6)), .u (.mv 35 (.t 9)), .u (.mv 36 (.t 8)), .u (.ia 37 1 (.t 34) (.t 35)), .u (.st 1 (.t 37) (.t 36))]
abbrev f31p6 : PC := .cond (.t 48) (f31p5) (.reg f31r17)
abbrev f31p7 : PC := .seq (.reg f31r14) (f31p6)
abbrev f31p8 : PC := .cond (.t 38) (f31p4) (f31p7)
abbrev f31p9 : PC := .block 2 (.seq (.reg f31r11) (f31p8))
def f31r18 : List PG := [.u (.bo 58 .add (.t 31) (.k (.int .i64 1))), .u (.mv 31 (.t 58))]
abbrev f31p10 : PC := .seq (.block 1 (.seq (.reg f31r10) (f31p9))) (.reg f31r18)
abbrev f31p11 : PC := .seq (.cond (.t 32) (.skip) (.exit 0)) (f31p10)
abbrev f31p12 : PC := .seq (.reg f31r9) (f31p11)
abbrev f31p13 : PC := .block 0 (.loop (f31p12))
def f31r19 : List PG := [.u (.ld 59 3 true (.t 1)), .u (.mv 60 (.t 4)), .u (.mv 61 (.t 6)), .uc 62 54 [.t 59, .t 60, .t 61], .u (.mv 10 (.t 62))]
def f31r20 : List PG := [.u (.mv 63 (.t 10)), .uc 64 18 [.t 63], .u (.mv 65 (.t 6)), .uc 66 18 [.t 65], .u (.bo 67 .gtr (.t 64) (.t 66))]
def f31r21 : List PG := [.u (.mv 68 (.t 10)), .u (.mv 6 (.t 68))]
abbrev f31p14 : PC := .seq (.reg f31r21) (.exit 4)
abbrev f31p15 : PC := .cond (.t 67) (f31p14) (.skip)
def f31r22 : List PG := [.u (.ld 70 3 true (.t 1)), .u (.mv 71 (.t 4)), .u (.mv 72 (.t 6)), .uc 73 55 [.t 70, .t 71, .t 72], .u (.mv 69 (.t 73)), .u (.ext 74 (.t 69) 0), .u (.ext 75 (.t 69) 1), .u (.mv 11 (.t 74)), .u (.mv 12 (.t 75))]
def f31r23 : List PG := [.u (.mv 76 (.t 12))]
def f31r24 : List PG := [.u (.mv 77 (.t 11)), .u (.mv 6 (.t 77))]
abbrev f31p16 : PC := .seq (.reg f31r24) (.exit 4)
abbrev f31p17 : PC := .cond (.t 76) (f31p16) (.skip)
abbrev f31p18 : PC := .seq (.reg f31r23) (f31p17)
def f31r25 : List PG := [.u (.mv 78 (.t 6)), .u (.mv 2 (.t 78)), .u (.mv 3 (.k (.nilIface)))]
abbrev f31p19 : PC := .seq (.reg f31r25) (.ret)
abbrev f31p20 : PC := .seq (.seq (.reg f31r22) (f31p18)) (f31p19)
abbrev f31p21 : PC := .seq (.seq (.reg f31r20) (f31p15)) (f31p20)
abbrev f31p22 : PC := .block 4 (.seq (.reg f31r19) (f31p21))
abbrev f31p23 : PC := .block 3 (.loop (f31p22))
abbrev f31p24 : PC := .seq (.seq (.reg f31r8) (f31p13)) (f31p23)
abbrev f31p25 : PC := .seq (.reg f31r7) (f31p24)
abbrev f31p26 : PC := .seq (.reg f31r6) (f31p25)
abbrev f31p27 : PC := .seq (.seq (.reg f31r4) (f31p3)) (f31p26)
abbrev f31p28 : PC := .seq (.reg f31r3) (f31p27)
abbrev f31p29 : PC := .seq (.seq (.reg f31r1) (f31p1)) (f31p28)
abbrev f31pc : PC := .seq (.reg f31r0) (f31p29)
def f31k : List Nat := [0, 1, 2, 3, 4, 5, 6, 7, 8, 9, 10, 11, 12, 15, 23, 30, 31, 32, 38, 48, 67, 76]
theorem f31c : Tryz.f31.body.bind (cC te Tryz.f31.ntmps) = some f31pc := by kernel_rfl
set_option maxRecDepth 20000
set_option maxHeartbeats 4000000


theorem may_is {n : Net} (h : n.may = true) (hn : n.ok) : FnS Tryz.prog 42 [n.av] (.d (.v (.bool true))) := by have := may_fn n hn; rwa [h] at this
theorem polsOk {n : Net} (m : n.May) : PssOk n (polsV n).2 := by
  obtain ⟨h, hl, h24⟩ := pols_spec n
  have he := m.edges
  refine ⟨by omega, fun k es ps h1 h2 => ?_, h24⟩
  have := h.len k
  rw [gD_some h1, gD_some h2] at this
  exact this
theorem split_of (n : Net) (hn : n.small) (m : n.May) (b : List Int) (hb : Blk n b) : FnS Tryz.prog 54 [n.av, .d (.sl 1 ((polsV n).2.map pssD)), .d (.sl 1 (b.map iD))] (.d (.sl 1 ((halvV n b).map iD))) := by
  have h := split_fn n hn m (polsV n).2 (polsOk m) b hb.len
  rwa [cls_eq (pols_spec n).1, ← halv_split] at h
theorem count_of (n : Net) (m : n.May) (b : List Int) (hb : Blk n b) : FnS Tryz.prog 18 [.d (.sl 1 (b.map iD))] (.d (.v (.int .i64 (countV b)))) := by
  have h1 := m.most
  have h2 := hb.len
  have hm : maxLen = 9223372036854775807 := rfl
  exact count_fn b (by omega) (fun x hx => by have := can_lt hb.can x hx; omega)
theorem halv_blk {n : Net} {b : List Int} (hb : Blk n b) : Blk n (halvV n b) := ⟨by unfold halvV; rw [nmbV_len, halvGo_len]; simp [hb.len], nmbV_can _⟩
theorem part_no (n : Net) (hn : n.small) (m : n.May) (b : List Int) (hb : Blk n b) (ht : takenV n b = none) : FnS Tryz.prog 55 [n.av, .d (.sl 1 ((polsV n).2.map pssD)), .d (.sl 1 (b.map iD))] (.tp [.d (.sl 1 []), .d (.v (.bool false))]) := by
  have h := part_fn n hn m (polsV n).2 (polsOk m) b hb.len
  rw [part_eq (pols_spec n).1 hb.can, ht] at h
  exact h
theorem part_yes (n : Net) (hn : n.small) (m : n.May) (b : List Int) (hb : Blk n b) {c : List Int} (ht : takenV n b = some c) : FnS Tryz.prog 55 [n.av, .d (.sl 1 ((polsV n).2.map pssD)), .d (.sl 1 (b.map iD))] (.tp [.d (.sl 1 (c.map iD)), .d (.v (.bool true))]) := by
  have h := part_fn n hn m (polsV n).2 (polsOk m) b hb.len
  rw [part_eq (pols_spec n).1 hb.can, ht] at h
  exact h
theorem start_alone {n : Net} {m : Nat} {out : List Int} {next rest : Int} {T : List Int} {k : Nat} (h : startGo n m out next rest = T) (hm : 0 < m) (ho : out.length = k) (ha : aloneV n (k : Int) = true) : startGo n (m - 1) (out ++ [next]) (next + 1) rest = T := by
  obtain ⟨m, rfl⟩ : ∃ m', m = m' + 1 := ⟨m - 1, by omega⟩
  rw [startGo, ho, if_pos ha] at h; exact h
theorem start_new {n : Net} {m : Nat} {out : List Int} {next rest : Int} {T : List Int} {k : Nat} (h : startGo n m out next rest = T) (hm : 0 < m) (ho : out.length = k) (ha : aloneV n (k : Int) = false) (hr : rest < 0) : startGo n (m - 1) (out ++ [next]) (next + 1) next = T := by
  obtain ⟨m, rfl⟩ : ∃ m', m = m' + 1 := ⟨m - 1, by omega⟩
  rw [startGo, ho, if_neg (by rw [ha]; decide), if_pos hr] at h; exact h
theorem start_old {n : Net} {m : Nat} {out : List Int} {next rest : Int} {T : List Int} {k : Nat} (h : startGo n m out next rest = T) (hm : 0 < m) (ho : out.length = k) (ha : aloneV n (k : Int) = false) (hr : ¬ rest < 0) : startGo n (m - 1) (out ++ [rest]) next rest = T := by
  obtain ⟨m, rfl⟩ : ∃ m', m = m' + 1 := ⟨m - 1, by omega⟩
  rw [startGo, ho, if_neg (by rw [ha]; decide), if_neg hr] at h; exact h
/-- Within the start. -/
def StI (n : Net) (x : Nat × List Int × Int × Int) : Prop := x.1 ≤ n.origin.length ∧ x.2.1.length = x.1 ∧ (0 ≤ x.2.2.1 ∧ x.2.2.1 ≤ x.1) ∧ startGo n (n.origin.length - x.1) x.2.1 x.2.2.1 x.2.2.2 = startL n
theorem StI.zero (n : Net) : StI n (0, [], 0, -1) := ⟨Nat.zero_le _, rfl, by simp, by rw [← Mq.start_eq]; rfl⟩
theorem StI.alone {n : Net} {x : Nat × List Int × Int × Int} (h : StI n x) (hk : x.1 < n.origin.length) (ha : aloneV n (x.1 : Int) = true) : StI n (x.1 + 1, x.2.1 ++ [x.2.2.1], x.2.2.1 + 1, x.2.2.2) := by
  obtain ⟨_, h2, h3, h4⟩ := h
  refine ⟨hk, by simp [h2], by push_cast; omega, ?_⟩
  rw [show n.origin.length - (x.1 + 1) = n.origin.length - x.1 - 1 by omega]
  exact start_alone h4 (by omega) h2 ha
theorem StI.new {n : Net} {x : Nat × List Int × Int × Int} (h : StI n x) (hk : x.1 < n.origin.length) (ha : aloneV n (x.1 : Int) = false) (hr : x.2.2.2 < 0) : StI n (x.1 + 1, x.2.1 ++ [x.2.2.1], x.2.2.1 + 1, x.2.2.1) := by
  obtain ⟨_, h2, h3, h4⟩ := h
  refine ⟨hk, by simp [h2], by push_cast; omega, ?_⟩
  rw [show n.origin.length - (x.1 + 1) = n.origin.length - x.1 - 1 by omega]
  exact start_new h4 (by omega) h2 ha hr
theorem StI.old {n : Net} {x : Nat × List Int × Int × Int} (h : StI n x) (hk : x.1 < n.origin.length) (ha : aloneV n (x.1 : Int) = false) (hr : ¬ x.2.2.2 < 0) : StI n (x.1 + 1, x.2.1 ++ [x.2.2.2], x.2.2.1, x.2.2.2) := by
  obtain ⟨_, h2, h3, h4⟩ := h
  refine ⟨hk, by simp [h2], by push_cast; omega, ?_⟩
  rw [show n.origin.length - (x.1 + 1) = n.origin.length - x.1 - 1 by omega]
  exact start_old h4 (by omega) h2 ha hr
theorem StI.done {n : Net} {x : Nat × List Int × Int × Int} (h : StI n x) (hk : ¬ x.1 < n.origin.length) : outR n.origin.length x.2.1 = startL n := by
  obtain ⟨_, h2, h3, h4⟩ := h
  rw [show n.origin.length - x.1 = 0 by omega, startGo] at h4
  rw [outR_end (by omega), h4]
theorem not_more {n : Net} {b : List Int} (hb : Blk n b) (h : ¬ countV b < countV (halvV n b)) : halvV n b = b := Classical.byContradiction fun q => h ((halv_more hb).2 q)
theorem rof_yes (n : Net) (hn : n.small) (hmay : n.may = true) : FnS Tryz.prog 31 [n.av] (.tp [.d (.sl 1 ((findV n).map iD)), .d (.v .nilIface)]) := by
  have hm : maxLen = 9223372036854775807 := rfl
  have m := Net.may_spec hmay
  have m2 := m.edges
  have m3 := m.most
  refine fn_of teok Tryz.func31 (by kernel_rfl) f31c f31k [.tmp 2, .tmp 3] rfl (by show 1 ≤ 79; omega) ?_
  first | (have _q := @g1; clear _q) | have g1 : Nat.pred 77 = 76 := rfl
  repeat' first
|(exact absurd hc (by decide))
|(with_reducible refine awp_exit_seal (i := 0) [28] ?_)
|(with_reducible first | refine awp_seq ?_ | refine awp_block ?_ | refine awp_reg ?_ | refine awp_ret ?_ | refine awp_skip ?_ | refine awp_exit ?_ | refine normQ_of ?_ | refine wkE_of ?_)
|with_reducible refine awp_cond (by simp only [evX, lget, Option.getD_some, reduceIte, Nat.reduceEqDiff]; rfl) (fun hc => ?_) (fun hc => ?_)
|with_reducible refine CallU_of (f := 42) (may_is hmay hn.ok) (by first | exact Or.inr (Or.inl rfl) | exact Or.inl rfl) ?_
|with_reducible refine CallU_of (f := 52) (pols_fn n hn m) (by first | exact Or.inr (Or.inl rfl) | exact Or.inl rfl) ?_
|with_reducible refine CallU_of (f := 53) (alone_fn n hn.ok _) (by first | exact Or.inr (Or.inl rfl) | exact Or.inl rfl) ?_
|with_reducible refine CallU_of (f := 54) (split_of n hn m y.1 hy.blk) (by first | exact Or.inr (Or.inl rfl) | exact Or.inl rfl) ?_
|with_reducible refine CallU_of (f := 18) (count_of n m (halvV n y.1) (halv_blk hy.blk)) (by first | exact Or.inr (Or.inl rfl) | exact Or.inl rfl) ?_
|with_reducible refine CallU_of (f := 18) (count_of n m y.1 hy.blk) (by first | exact Or.inr (Or.inl rfl) | exact Or.inl rfl) ?_
|with_reducible refine CallU_of (f := 55) (part_no n hn m y.1 hy.blk htk) (by first | exact Or.inr (Or.inl rfl) | exact Or.inl rfl) ?_
|with_reducible refine CallU_of (f := 55) (part_yes n hn m y.1 hy.blk htk) (by first | exact Or.inr (Or.inl rfl) | exact Or.inl rfl) ?_
|(with_reducible assumption)
|(with_reducible refine fun (hT : (_ : Bool) = _) => ?_)
|with_reducible refine And.intro ?_ ?_
|(with_reducible refine awp_loopU (b := f31p12) (fun x : Nat × List Int × Int × Int => StI n x) (fun x => n.origin.length - x.1) (fun x => [(31, .d (.v (.int .i64 x.1))), (7, .d (.v (.int .i64 x.2.2.1))), (8, .d (.v (.int .i64 x.2.2.2)))]) (fun x => [(28, .row 3 1 0 ((outR n.origin.length x.2.1).map iD))]) ((0, [], 0, -1)) (StI.zero n) (Wk.refl _ _) (Wk_sub rfl rfl ?_ ?_) (fun x hx => ?_))
|(have hlt : x.1 < n.origin.length := (by have h0 := of_decide_eq_true (show decide ((x.1 : Int) < _) = true from hc); first | exact Int.ofNat_lt.1 h0 | (rw [outR_len (by have := hx.2.1; omega)] at h0; exact Int.ofNat_lt.1 h0)); have g1 := wrapI64 (x.2.2.1 + 1) (by have := hx.2.2.1; omega) (by have := hx.2.2.1; omega); replace hc : True := trivial)
|(have hal : aloneV n (x.1 : Int) = true := hc; replace hc : True := trivial)
|(have hal : aloneV n (x.1 : Int) = false := hc; replace hc : True := trivial)
|(have hrs : x.2.2.2 < 0 := of_decide_eq_true (show decide (x.2.2.2 < 0) = true from hc); replace hc : True := trivial)
|(have hrs : ¬ x.2.2.2 < 0 := of_decide_eq_false (show decide (x.2.2.2 < 0) = false from hc); replace hc : True := trivial)
|(have hmo : countV y.1 < countV (halvV n y.1) := of_decide_eq_true hc; replace hc : True := trivial)
|(have hno : halvV n y.1 = y.1 := not_more hy.blk (of_decide_eq_false hc); have hst := stepL_take hno; replace hc : True := trivial; rcases htk : takenV n y.1 with _ | c)
|(have _q := hmo; with_reducible refine loopQ_next (halvV n y.1, ()) ?_ ?_ (Wk_sub rfl rfl ?_ ?_))
|(have _q := htk; with_reducible refine loopQ_next (c, ()) ?_ ?_ (Wk_sub rfl rfl ?_ ?_))
|(have _q : aloneV n (x.1 : Int) = true := hal; with_reducible refine loopQ_next (x.1 + 1, x.2.1 ++ [x.2.2.1], x.2.2.1 + 1, x.2.2.2) ?_ ?_ (Wk_sub rfl rfl ?_ ?_))
|(have _q : x.2.2.2 < 0 := hrs; with_reducible refine loopQ_next (x.1 + 1, x.2.1 ++ [x.2.2.1], x.2.2.1 + 1, x.2.2.1) ?_ ?_ (Wk_sub rfl rfl ?_ ?_))
|(have _q : ¬ x.2.2.2 < 0 := hrs; with_reducible refine loopQ_next (x.1 + 1, x.2.1 ++ [x.2.2.2], x.2.2.1, x.2.2.2) ?_ ?_ (Wk_sub rfl rfl ?_ ?_))
|(with_reducible refine awp_loopU (b := f31p22) (fun y : List Int × Unit => OnWay n y.1) (fun y => ((n.origin.length : Int) - countV y.1).toNat) (fun y => [(6, .d (.sl 1 (y.1.map iD)))]) (fun y => []) ((startL n, ())) (OnWay.zero n) (Wk.refl _ _) (Wk_sub rfl rfl ?_ ?_) (fun y hy => ?_))
|simp only [f31r0, f31r1, f31r2, f31r3, f31r4, f31r5, f31r6, f31r7, f31r8, f31r9, f31r10, f31r11, f31r12, f31r13, f31r14, f31r15, f31r16, f31r17, f31r18, f31r19, f31r20, f31r21, f31r22, f31r23, f31r24, f31r25, g1, f31k, List.length_map, Int.toNat_natCast, outR_len, List.length_replicate, List.getElem?_cons_zero, List.getElem?_cons_succ, runG_nil, runG_u, runG_ucS, stp, avL, avS, evs, evX, lget, lput, strip, putO, PO.dst, updO, okR, cells, splice, AV.cell, toD, toDs, binV, sameK, pickV, guardOf, okL_nil, sides, argsOf, rawOf, dv, dvL, owns, ownsL, flat, flatL, lkeep, seqQ, blockQ, initS, List.drop_succ_cons, List.drop_zero, List.take_succ_cons, List.take_zero, List.getD_cons_zero, List.getD_cons_succ, List.length_cons, List.length_nil, List.set_cons_zero, List.set_cons_succ, List.map_cons, List.map_nil, List.all_cons, List.all_nil, List.elem_cons, List.elem_nil, Option.getD_some, Option.getD_none, Option.bind_some, Option.isNone_none, reduceIte, reduceCtorEq, Nat.reduceEqDiff, Nat.reduceAdd, Nat.reduceLeDiff, Nat.zero_add, Nat.add_zero, Nat.reduceBEq, Bool.and_self, Bool.and_true, Bool.true_and, Bool.or_self, Bool.or_false, Bool.false_or, Bool.or_true, Bool.true_or, true_and, and_true, and_self, implies_true, forall_const, Bool.false_eq_true, id_eq, retQ, resOf, resV, Option.some.injEq, exists_eq_left', AV.d.injEq, D.v.injEq, Value.bool.injEq, imp_self, bldF, bldS, toVals, eqLs, Option.map_some, imp_false, not_true_eq_false, not_false_eq_true, List.append_nil, List.cons_append, List.nil_append, Option.toList_some, Option.toList_none, loopQ_exit, loopQ_ret, subS, subO, Bool.bne_false, Bool.bne_true, elemsOf, bslD, bslS, lputs, List.headD_cons, sealS, sealO, sealV, sealL, sealsS, sealsO, Bool.true_bne, Bool.false_bne, bne_self_eq_false, Int.reduceToNat, oSl, resR, argsN, dvN]
  all_goals try first
    | omega
    | (with_reducible rfl)
    | (show Value.int _ 0 = _; rfl)
    | (simp [outR, List.map_replicate]; done)
    | (have hlt : x.1 < n.origin.length := by assumption
       rw [outR_len (by have := hx.2.1; omega)]; omega)
    | exact hx.alone hlt hal
    | exact hx.new hlt hal hrs
    | exact hx.old hlt hal hrs
    | exact outR_row2 hx.2.1 hlt _
    | exact outR_row hx.2.1 hlt _
    | exact count64 hlt (by omega)
    | (have h1 := hy.step m (stepL_halv (fun q => by rw [q] at hmo; omega)); exact h1.1)
    | (have h1 := hy.step m (stepL_halv (fun q => by rw [q] at hmo; omega)); exact meas_lt h1.2.1 h1.2.2)
    | (have h1 := hy.step m (hst.trans htk); exact h1.1)
    | (have h1 := hy.step m (hst.trans htk); exact meas_lt h1.2.1 h1.2.2)
    | (rw [hx.done (by have := of_decide_eq_false hc; omega)]; done)
    | (rw [hy.stop (hst.trans htk)]; done)
  all_goals trace_state
end Go.Proofs.YtgkkaimcchlnaaaGreatDoor
