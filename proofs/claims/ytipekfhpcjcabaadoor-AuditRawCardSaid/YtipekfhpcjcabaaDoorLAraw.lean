/- The law AuditRaw: whatever the input, it returns true and changes nothing; where errors.errorType holds what the program's text lays it to. Printed by a program of this project (wip/mq). -/
import Derived.Test.YtipekfhpcjcabaaDoorCard
import Derived.Test.YtipekfhpcjcabaaDoorAraw
set_option linter.unusedVariables false
set_option linter.unusedSimpArgs false
namespace Go.Proofs.YtipekfhpcjcabaaDoor
open Go Mq Go.ChangeShapes Go.WideShapes Go.ChangeAt Go.RowKit
set_option maxRecDepth 20000
set_option maxHeartbeats 4000000
set_option linter.unusedSimpArgs false
set_option linter.unusedVariables false

theorem clauses_ofQ {n : Nat} {x : List D} (h : dT te (n + 4) 69 x) : ∃ cs : List Clause, x = [.sl 10 (cs.map Clause.row)] ∧ cs.length ≤ maxLen := by
  rw [dT] at h
  simp only [te69, te127] at h
  obtain ⟨l, rfl, hm, hl⟩ := h
  obtain ⟨rs, rfl⟩ := rows_of Clause.row _ (fun x hx => clause_row hx) l (fun x hx => (hl x hx).2)
  exact ⟨rs, rfl, by simpa using hm⟩
theorem edge_rowQ {n : Nat} {x : List D} (h : dT te (n + 5) 71 x) : ∃ e : Arc, x = e.row ∧ e.ok := by
  rw [dT] at h
  simp only [te71, dFs, te3, te69] at h
  obtain ⟨_, _, rfl, _, h1, _, _, rfl, _, h2, _, _, rfl, _, h3, _, _, rfl, _, h4, rfl⟩ := h
  obtain ⟨f, rfl⟩ := int_row h1
  obtain ⟨c, rfl⟩ := int_row h2
  obtain ⟨e, rfl, he⟩ := clauses_ofQ h3
  obtain ⟨i, rfl, hi⟩ := clauses_ofQ h4
  exact ⟨⟨f, c, e, i⟩, rfl, ⟨he, hi⟩⟩
theorem edges_rowQ {n : Nat} {x : List D} (h : dT te (n + 6) 72 x) : ∃ es : List Arc, x = esD es ∧ (es.length ≤ maxLen ∧ ∀ e ∈ es, e.ok) := by
  rw [dT] at h
  simp only [te72, te71] at h
  obtain ⟨l, rfl, hm, hl⟩ := h
  obtain ⟨rs, rfl, hr⟩ := rows_ofQ Arc.row _ _ (fun x hx => edge_rowQ hx) l (fun x hx => (hl x hx).2)
  exact ⟨rs, rfl, by simpa using hm, hr⟩
theorem net_ofQ {n : Nat} {x : List D} (h : dT te (n + 8) 29 x) : ∃ m : Net, x = [.sl 1 (m.origin.map bD), .sl 1 (m.static.map iD), .sl 1 (m.edges.map esD)] ∧ m.ok := by
  rw [dT] at h
  simp only [te29, dFs, te22, te26, te27] at h
  obtain ⟨_, _, rfl, _, h1, _, _, rfl, _, h2, _, _, rfl, _, h3, rfl⟩ := h
  rw [dT] at h1 h2 h3
  simp only [te22, te26, te27, te4, te3, te72] at h1 h2 h3
  obtain ⟨l1, rfl, m1, g1⟩ := h1
  obtain ⟨l2, rfl, m2, g2⟩ := h2
  obtain ⟨l3, rfl, m3, g3⟩ := h3
  obtain ⟨r1, rfl⟩ := rows_of bD _ (fun x hx => bool_row hx) l1 (fun x hx => (g1 x hx).2)
  obtain ⟨r2, rfl⟩ := rows_of iD _ (fun x hx => int_row hx) l2 (fun x hx => (g2 x hx).2)
  obtain ⟨r3, rfl, hr⟩ := rows_ofQ esD _ _ (fun x hx => edges_rowQ hx) l3 (fun x hx => (g3 x hx).2)
  exact ⟨⟨r1, r2, r3⟩, rfl, ⟨by simpa using m1, by simpa using m2, by simpa using m3, fun es he => (hr es he).1, fun es he => (hr es he).2⟩⟩

theorem araw_as (av : List AV) (h : dArgs te 9 [29, 29, 26] av) : FnS Tryd.prog 5 av (.d (.v (.bool true))) := by
  obtain ⟨x, _, rfl, hx, y, _, rfl, hy, z, _, rfl, hz, rfl⟩ := h
  obtain ⟨n, rfl, hn⟩ := net_ofQ (n := 1) hx
  obtain ⟨m, rfl, hm⟩ := net_ofQ (n := 1) hy
  rw [dT] at hz
  simp only [te26, te3] at hz
  obtain ⟨l, rfl, m1, g1⟩ := hz
  obtain ⟨b, rfl⟩ := rows_of iD _ (fun x hx => int_row hx) l (fun x hx => (g1 x hx).2)
  exact araw_fn n hn m hm b (by simpa using m1)

set_option maxRecDepth 100000 in
theorem auditRaw_lifted (os : Os) (started : os.Started) (H : Type) (enc : TypeId × Value → H) :
    ReturnsInLeavingWide {} Tryd.checked os 5 .any (fun w args => (Rows.auditRawSpec.pre enc Tryd.prog Tryd.f5 Rows.auditRawRow.domain false w args ∧ laidMetH Tryd.prog [("errors.errorType", Rows.laid_errors_errorType)] w) ∧ sizedMet enc Tryd.prog Tryd.f5 (OpenSpec.ofChange Rows.auditRawSpec) false w args) (Rows.auditRawSpec.post enc Tryd.prog Tryd.f5 false true false false) := by
  refine leaving_of_handed (returnsInHanded_of_change_and (C := Tryd.checked) (X := fun w _ => laidMetH Tryd.prog [("errors.errorType", Rows.laid_errors_errorType)] w) (fun _ _ _ hh h => h.of_heap hh) own started (by kernel_rfl) Tryd.func5
    (ChangeSpec.witness_at (enc := enc) (C := Tryd.checked) (os := os) (X := fun w _ => laidMetH Tryd.prog [("errors.errorType", Rows.laid_errors_errorType)] w) false (laidWorld os) #[.agg #[.slice none 0 0, .slice none 0 0, .slice none 0 0], .agg #[.slice none 0 0, .slice none 0 0, .slice none 0 0], .slice none 0 0] 8 rfl (by kernel_rfl) (by kernel_rfl) (by kernel_rfl) (by kernel_rfl) (by kernel_rfl) (laidWorld_met os _)) ?_)
  intro W base args ds gs before hval hW hcnd _ hL _
  have hp : Tryd.f5.params.toList = [29, 29, 26] := by kernel_rfl
  refine law_calls (n := 9) (b := 4) laidOut (by rw [hp]; exact List.forall_mem_cons.2 ⟨⟨by kernel_rfl, of_decide_eq_true (by kernel_rfl)⟩, List.forall_mem_cons.2 ⟨⟨by kernel_rfl, of_decide_eq_true (by kernel_rfl)⟩, List.forall_mem_cons.2 ⟨⟨by kernel_rfl, of_decide_eq_true (by kernel_rfl)⟩, (by simp)⟩⟩⟩) (by rw [hp]; exact List.forall_mem_cons.2 ⟨by kernel_rfl, List.forall_mem_cons.2 ⟨by kernel_rfl, List.forall_mem_cons.2 ⟨by kernel_rfl, (by simp)⟩⟩⟩) rfl (by kernel_rfl) (by kernel_rfl) (fun ds hd => ?_) hval hW (gx_of_cell (handle_of_laid hL)) (fun av h => araw_as av (argsT_d teok _ _ _ (by rw [hp]; exact List.forall_mem_cons.2 ⟨rfl, List.forall_mem_cons.2 ⟨rfl, List.forall_mem_cons.2 ⟨rfl, (by simp)⟩⟩⟩) h |> (hp ▸ ·)))
  have hd : ds.length = 3 := hd
  match ds, hd with
  | [_, _, _], _ => rfl
theorem auditRaw_said : Rows.AuditRawSaid :=
  OpenClaim.holds_of_wide_leaving 5 Tryd.f5 rfl rfl rfl rfl rfl rfl rfl ⟨rfl, rfl, rfl, rfl, rfl⟩ rfl rfl rfl rfl rfl (by kernel_rfl) Tryd.func5 (by kernel_rfl)
    (of_decide_eq_true (by kernel_rfl)) (by unfold Func.isWrapper; first | (rw [if_pos (by decide +kernel)]; kernel_rfl) | (rw [if_neg (by decide +kernel)]; exact ⟨rfl, rfl⟩))
    (fun os started H enc _ => auditRaw_lifted os started H enc)
theorem auditRaw_holds : Rows.AuditRawCardSaid :=
  holds_tied_goes [.handle] true (true, "d91b0bc874452d232d61fea59e56ed63081850862a9dacca15f5665823f2ee01") true true
    auditRaw_said (by kernel_rfl) auditRaw_row_tie rfl ⟨rfl, rfl⟩ (by kernel_rfl) rfl
    (fun f fn hf hfn => by
      obtain rfl : f = 5 := (Option.some.inj ((show Tryd.prog.funcNamed Rows.auditRawRow.func = some 5 by kernel_rfl).symm.trans hf)).symm
      obtain rfl : fn = Tryd.f5 := (Option.some.inj (Tryd.func5.symm.trans hfn)).symm
      exact ⟨by kernel_rfl, fun j t ht => by
        have hp : Tryd.f5.params.toList = [29, 29, 26] := by kernel_rfl
        have hm : t ∈ Tryd.f5.params.toList := by rw [Array.mem_toList_iff]; exact Array.mem_of_getElem? ht
        rw [hp] at hm
        have hall : ∀ t ∈ [29, 29, 26], Tryd.prog.wantsStandIn t = false := List.forall_mem_cons.2 ⟨by kernel_rfl, List.forall_mem_cons.2 ⟨by kernel_rfl, List.forall_mem_cons.2 ⟨by kernel_rfl, (by simp)⟩⟩⟩
        exact hall t hm⟩)
    (by kernel_rfl)
end Go.Proofs.YtipekfhpcjcabaaDoor
