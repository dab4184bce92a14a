/- Sorting prefixes: slices.SortFunc by the library's contract, laid at this seat; its closure. By this project. -/
import Derived.Test.YtokfackbnnkbnaaDoorQ0
import Derived.Test.YtokfackbnnkbnaaDoorMqPl
import Derived.Shelf.SlSortCmp.NoneTotal
set_option linter.unusedVariables false
set_option linter.unusedSimpArgs false

namespace Go.Proofs
open Go.Shelf Go.RowKit Go.Lib Go.Sort
def Tryd.sortPfx_ren : Go.Shelf.Ren := ⟨fun | 6 => 28 | 15 => 51 | 14 => 50 | 28 => 70 | 29 => 71 | 20 => 62 | 21 => 63 | 22 => 64 | 23 => 65 | 24 => 66 | 25 => 67 | 26 => 68 | 27 => 69 | 46 => 76 | 47 => 77 | 48 => 78 | 49 => 79 | 50 => 80 | 57 => 83 | n => n, fun | 22 => 57 | 24 => 34 | 25 => 93 | 3 => 3 | 39 => 136 | 0 => 0 | 53 => 32 | 55 => 183 | 4 => 4 | 46 => 176 | 45 => 175 | 50 => 97 | 5 => 5 | 9 => 9 | 66 => 187 | 70 => 191 | 76 => 195 | 77 => 196 | n => n, fun | n => n⟩
theorem Tryd.sortPfx : Go.Proofs.SlLaysF0.n6 Tryd.prog Tryd.sortPfx_ren := {
  mixed := by kernel_rfl, f6 := ⟨Tryd.f28.name, by kernel_rfl, Tryd.func28.trans (congrArg some (by kernel_rfl))⟩, f14 := ⟨Tryd.f50.name, by kernel_rfl, Tryd.func50.trans (congrArg some (by kernel_rfl))⟩, f15 := Tryd.func51.trans (congrArg some (by kernel_rfl)),
  f20 := ⟨Tryd.f62.name, by kernel_rfl, Tryd.func62.trans (congrArg some (by kernel_rfl))⟩, f21 := ⟨Tryd.f63.name, by kernel_rfl, Tryd.func63.trans (congrArg some (by kernel_rfl))⟩, f22 := ⟨Tryd.f64.name, by kernel_rfl, Tryd.func64.trans (congrArg some (by kernel_rfl))⟩, f23 := ⟨Tryd.f65.name, by kernel_rfl, Tryd.func65.trans (congrArg some (by kernel_rfl))⟩,
  f24 := ⟨Tryd.f66.name, by kernel_rfl, Tryd.func66.trans (congrArg some (by kernel_rfl))⟩, f25 := ⟨Tryd.f67.name, by kernel_rfl, Tryd.func67.trans (congrArg some (by kernel_rfl))⟩, f26 := ⟨Tryd.f68.name, by kernel_rfl, Tryd.func68.trans (congrArg some (by kernel_rfl))⟩, f27 := ⟨Tryd.f69.name, by kernel_rfl, Tryd.func69.trans (congrArg some (by kernel_rfl))⟩,
  f28 := Tryd.func70.trans (congrArg some (by kernel_rfl)), f29 := Tryd.func71.trans (congrArg some (by kernel_rfl)), f46 := ⟨Tryd.f76.name, by kernel_rfl, Tryd.func76.trans (congrArg some (by kernel_rfl))⟩, f47 := Tryd.func77.trans (congrArg some (by kernel_rfl)),
  f48 := Tryd.func78.trans (congrArg some (by kernel_rfl)), f49 := ⟨Tryd.f79.name, by kernel_rfl, Tryd.func79.trans (congrArg some (by kernel_rfl))⟩, f50 := ⟨Tryd.f80.name, by kernel_rfl, Tryd.func80.trans (congrArg some (by kernel_rfl))⟩, f57 := ⟨Tryd.f83.name, by kernel_rfl, Tryd.func83.trans (congrArg some (by kernel_rfl))⟩,
  t0 := Tryd.underlying0, a0 := Tryd.isAgg0, z0 := Tryd.sizeOf0, v0 := Tryd.zeroValue0,
  t3 := Tryd.underlying3, a3 := Tryd.isAgg3, z3 := Tryd.sizeOf3, v3 := Tryd.zeroValue3,
  t4 := Tryd.underlying4, a4 := Tryd.isAgg4, z4 := Tryd.sizeOf4, v4 := Tryd.zeroValue4,
  t5 := Tryd.underlying5, a5 := Tryd.isAgg5, z5 := Tryd.sizeOf5, v5 := Tryd.zeroValue5,
  t9 := Tryd.underlying9, a9 := Tryd.isAgg9, z9 := Tryd.sizeOf9, v9 := Tryd.zeroValue9,
  t22 := Tryd.underlying57, a22 := Tryd.isAgg57, z22 := Tryd.sizeOf57, v22 := Tryd.zeroValue57,
  t25 := Tryd.underlying93, a25 := Tryd.isAgg93, z25 := Tryd.sizeOf93, v25 := Tryd.zeroValue93,
  t39 := Tryd.underlying136, a39 := Tryd.isAgg136, z39 := Tryd.sizeOf136, v39 := Tryd.zeroValue136,
  t45 := Tryd.underlying175, a45 := Tryd.isAgg175, z45 := Tryd.sizeOf175, v45 := Tryd.zeroValue175,
  t46 := Tryd.underlying176, a46 := Tryd.isAgg176, z46 := Tryd.sizeOf176, v46 := Tryd.zeroValue176,
  t50 := Tryd.underlying97, a50 := Tryd.isAgg97, z50 := Tryd.sizeOf97, v50 := Tryd.zeroValue97,
  t53 := Tryd.underlying32, a53 := Tryd.isAgg32, z53 := Tryd.sizeOf32, v53 := Tryd.zeroValue32,
  t55 := Tryd.underlying183, a55 := Tryd.isAgg183, z55 := Tryd.sizeOf183, v55 := Tryd.zeroValue183,
  t66 := Tryd.underlying187, a66 := Tryd.isAgg187, z66 := Tryd.sizeOf187, v66 := Tryd.zeroValue187,
  t70 := Tryd.underlying191, a70 := Tryd.isAgg191, z70 := Tryd.sizeOf191, v70 := Tryd.zeroValue191,
  t76 := Tryd.underlying195, a76 := Tryd.isAgg195, z76 := Tryd.sizeOf195, v76 := Tryd.zeroValue195,
  t77 := Tryd.underlying196, a77 := Tryd.isAgg196, z77 := Tryd.sizeOf196, v77 := Tryd.zeroValue196 }
end Go.Proofs
namespace Mq
open Go Go.Sort Go.Proofs Go.RowKit
def pcmp (x y : Int × Int) : Int := if x = y then 0 else if pless x y then -1 else 1
def encP (x : Int × Int) : List Value := [.int .u32 x.1, .int .i64 x.2]
theorem lt_pcmp (x y : Int × Int) : ltOf pcmp x y = pless x y := by
  unfold ltOf pcmp
  by_cases h : x = y
  · subst h; simp [pless]
  · cases hp : pless x y <;> simp [h, hp]
theorem pless_iff (x y : Int × Int) : pless x y = true ↔ x.1 < y.1 ∨ (x.1 = y.1 ∧ x.2 < y.2) := by simp [pless]
theorem swoP : SWO (ltOf pcmp) where
  irrefl x := by rw [lt_pcmp]; simp [pless]
  trans x y z h1 h2 := by rw [lt_pcmp, pless_iff] at *; omega
  ntrans x y z h1 h2 := by
    rw [lt_pcmp] at *
    rw [← Bool.not_eq_true, pless_iff] at *
    omega
theorem totP (x y : Int × Int) (h1 : ltOf pcmp x y = false) (h2 : ltOf pcmp y x = false) : x = y := by
  rw [lt_pcmp, ← Bool.not_eq_true, pless_iff] at h1 h2
  exact Prod.ext (by omega) (by omega)
theorem sortP_eq (l : List (Int × Int)) : sortP l = l.mergeSort fun x y => !(ltOf pcmp) y x := by
  unfold sortP; congr 1; funext x y; rw [lt_pcmp]
end Mq
namespace Go.Proofs
open Go.Shelf Go.RowKit Go.Lib Go.Sort Mq
set_option maxHeartbeats 2000000
set_option linter.unusedSimpArgs false
theorem al2 (W : World) (a b : Obj) : ∃ os', (W.alloc a).alloc b = grow (W.drewN 0) os' := ⟨_, by rw [alloc_eq_grow, alloc_eq_grow, grow_grow]; rfl⟩
theorem al4 (W : World) (a b c d : Obj) : ∃ os', (((W.alloc a).alloc b).alloc c).alloc d = grow (W.drewN 0) os' := ⟨_, by rw [alloc_eq_grow, alloc_eq_grow, alloc_eq_grow, alloc_eq_grow, grow_grow, grow_grow, grow_grow]; rfl⟩
theorem Tryd.closP' (x1 x2 y1 y2 k : Int) (hk : Hid (k = pcmp (x1, x2) (y1, y2))) (W : World) : Calls Tryd.prog 29 #[.agg #[.int .u32 x1, .int .i64 x2], .agg #[.int .u32 y1, .int .i64 y2]] W fun e w' => e = .returned (.int .i64 k) ∧ ∃ q os', w' = grow (W.drewN q) os' := by
  go_enter Tryd.func29, Tryd.ntmps29
  go_wp2
  all_goals go_ret
  all_goals (refine ⟨?_, 0, ?_⟩; rotate_left; first | exact al2 _ _ _ | exact al4 _ _ _ _ _)
  all_goals (rw [hk.out]; simp_all [pcmp, pless, Array.getD])
  all_goals omega
theorem Tryd.closP (x y : Int × Int) (W : World) : Calls Tryd.prog 29 #[.agg (encP x).toArray, .agg (encP y).toArray] W fun e w' => e = .returned (.int .i64 (pcmp x y)) ∧ ∃ q os', w' = grow (W.drewN q) os' :=
  Tryd.closP' x.1 x.2 y.1 y.2 _ rfl W
theorem Tryd.cmpLaysP (blk off size : Nat) (w : World) : CmpLays Tryd.prog 29 #[] encP 2 pcmp blk off size w :=
  fun _ _ _ _ x y => Tryd.closP x y _
end Go.Proofs
namespace Mq
open Go Go.Sort Go.Proofs Go.RowKit
theorem rep_v {h : Hp} {v x : Value} (r : Rep h v (.v x)) : v = x := by cases r; rfl
theorem flatP {v : List (Int × Int)} {t : Nat} (h : t < v.length * 2) : (flatK encP 2 v.toArray)[t]! = (encP (v.getD (t / 2) (0, 0))).getD (t % 2) undef := by
  rw [get_flatK _ _ _ _ (by simpa using h)]
  have h2 : t / 2 < v.length := by omega
  have h3 : v.toArray[t / 2]! = v.getD (t / 2) (0, 0) := by simp [getElem!_pos, h2, List.getD, List.getElem?_eq_getElem h2]
  rw [h3]
  have h4 : t % 2 = 0 ∨ t % 2 = 1 := by omega
  rcases h4 with h4 | h4 <;> rw [h4] <;> rfl
theorem sort_fnT (l : List (Int × Int)) (hl : l.length ≤ 1048576) : FnT Tryd.prog 28 34 2 [.clo 29 []] (l.map pD) ((sortP l).map pD) (.tp []) := by
  refine ⟨⟨Tryd.f28, by kernel_rfl, by kernel_rfl, by kernel_rfl⟩, ?_⟩
  intro w h v vs xs hgx hvis hown hls hrr hvs hva
  have hvs1 : vs = #[.func (.func 29) #[] #[]] := by
    match vs, hvs with
    | ⟨[a]⟩, _ =>
      have := hva 0 _ rfl
      cases this with
      | clo _ cs _ hcl hcr =>
        have : cs = #[] := Array.eq_empty_of_size_eq_zero hcl
        subst this; rfl
  subst hvs1
  have hx : ∀ t, t < l.length * 2 → xs.getD t undef = (encP (l.getD (t / 2) (0, 0))).getD (t % 2) undef := by
    intro t ht
    have h2 : t / 2 < l.length := by omega
    have hg : (l.map pD)[t / 2]? = some (pD l[t / 2]) := by simp [h2]
    have h4 : t % 2 = 0 ∨ t % 2 = 1 := by omega
    have he : l.getD (t / 2) (0, 0) = l[t / 2] := by simp [List.getD, h2]
    rw [he]
    rcases h4 with h4 | h4
    · have := hrr (t / 2) _ 0 _ hg rfl
      rw [show t / 2 * 2 + 0 = t by omega] at this
      rw [h4]; exact rep_v this
    · have := hrr (t / 2) _ 1 _ hg rfl
      rw [show t / 2 * 2 + 1 = t by omega] at this
      rw [h4]; exact rep_v this
  rcases hown.2 with ⟨rfl, hn⟩ | ⟨b, cap, cur, rfl, _, hb, hc1, hc2, hcs, htk⟩
  · have hl0 : l = [] := List.eq_nil_of_length_eq_zero (by simpa using hn)
    subst hl0
    have hS := AnyF.slices_SortFunc_none Tryd.sortPfx none 0 (.func (.func 29) #[] #[]) w
    change Calls Tryd.prog 28 _ _ _ at hS
    rw [show (#[Value.slice none 0 0] ++ #[.func (.func 29) #[] #[]] : Array Value) = #[.slice none 0 0, .func (.func 29) #[] #[]] by simp]
    refine Calls.mono hS ?_
    rintro e w' ⟨rfl, rfl⟩
    exact ⟨_, [], rfl, .tp _ _ rfl (fun j a hj => by simp at hj), ⟨rfl, rfl, rfl, Nat.le_refl _, fun _ _ _ => rfl⟩, ⟨by simp [sortP], .inl ⟨rfl, by simp [sortP]⟩⟩, fun i es hi => by simp [sortP] at hi, fun i es j d hi => by simp [sortP] at hi⟩
  · have hl1 : (l.map pD).length = l.toArray.size := by simp
    have hcl : cap * 2 = cur.size := hcs.symm
    have hl2 : l.length ≤ cap := by simpa using hc1
    have hxl : xs.length = l.length * 2 := by simpa using hown.1
    have hcell : ∀ t, t < l.length * 2 → cur[t]? = some ((flatK encP 2 l.toArray)[t]!) := by
      intro t ht
      rw [flatP ht, ← hx t ht]
      have h1 : cur.toList[t]? = xs[t]? := by rw [← htk, List.getElem?_take_of_lt (by simpa using ht)]
      rw [← Array.getElem?_toList, h1, List.getElem?_eq_getElem (by omega), List.getD_eq_getElem?_getD, List.getElem?_eq_getElem (by omega)]
      rfl
    have hH : HoldsK encP 2 w b 0 l.toArray := by
      intro j hj
      have hj' : j < l.length * 2 := by simpa using hj
      refine ⟨?_, by simp [World.frozen?, hb]⟩
      simp only [World.cell?, hb, Nat.zero_add, Option.isSome_none, Bool.false_eq_true, if_false]
      exact hcell j hj'
    have eg : ∀ args w, (callFunc 29 args).run Tryd.prog w = .ok (.enter 29 args) w := enters_of Tryd.func29 (by kernel_rfl) rfl
    have hbl : b < w.heap.size := (Array.getElem?_eq_some_iff.1 hb).1
    have hS := AnyQ.slices_SortFunc_total Tryd.sortPfx 2 Tryd.isAgg34 Tryd.sizeOf34 encP (fun _ => rfl) (fun x v hv => by simp [encP] at hv; rcases hv with rfl | rfl <;> rfl) pcmp swoP 29 #[] b 0 cap l.toArray w eg (Tryd.cmpLaysP b 0 l.toArray.size w) hH hbl (by simp; omega) totP
    change Calls Tryd.prog 28 _ _ _ at hS
    rw [show (#[Value.slice (some ⟨b, 0, none⟩) (l.map pD).length cap] ++ #[.func (.func 29) #[] #[]] : Array Value) = #[.slice (some ⟨b, 0, none⟩) l.toArray.size cap, .func (.func 29) #[] #[]] by simp]
    refine Calls.mono hS ?_
    rintro e w' ⟨rfl, n, os, rfl⟩
    rw [← sortP_eq]
    have hw : (sortWorldK encP 2 w b 0 n (sortP l).toArray os).heap[b]? = some (.cells (putCells id 0 (flatK encP 2 (sortP l).toArray) cur) 34 (0, 0)) := by
      unfold sortWorldK
      rw [heap_grow_old _ _ (by simp only [size_putRowK]; exact hbl)]
      simp [putRowK, putRow, mapBlock, Sort.ahead, Array.getElem?_modify, hb, onCells]
    have hsl := sortP_len l
    refine ⟨_, (putCells id 0 (flatK encP 2 (sortP l).toArray) cur).toList.take (l.length * 2), rfl, .tp _ _ rfl (fun j a hj => by simp at hj), ⟨rfl, rfl, rfl, ?_, fun k hk hne => ?_⟩, ⟨?_, .inr ⟨b, cap, _, ?_, Nat.zero_le _, hw, ?_, hc2, ?_, ?_⟩⟩, fun i es hi => ?_, fun i es j d hi hj => ?_⟩
    · unfold sortWorldK; simp [grow, putRowK, putRow, mapBlock, Sort.ahead]
    · unfold sortWorldK
      rw [heap_grow_old _ _ (by simp only [size_putRowK]; exact hk)]
      have : b ≠ k := fun e => hne (by rw [e]; rfl)
      simp [putRowK, putRow, mapBlock, Sort.ahead, Array.getElem?_modify, this]
    · simp [putCells, hsl, ← hcl]; omega
    · simp [hsl]
    · simpa [hsl] using hl2
    · simp [putCells, hcs]
    · simp [hsl]
    · rw [List.getElem?_map] at hi
      obtain ⟨p, _, rfl⟩ := Option.map_eq_some_iff.1 hi
      rfl
    · rw [List.getElem?_map] at hi
      obtain ⟨p, hp, rfl⟩ := Option.map_eq_some_iff.1 hi
      have hip : i < (sortP l).length := (List.getElem?_eq_some_iff.1 hp).1
      have hj2 : j < 2 := (List.getElem?_eq_some_iff.1 hj).1
      have hk : i * 2 + j < l.length * 2 := by omega
      have hv : ((putCells id 0 (flatK encP 2 (sortP l).toArray) cur).toList.take (l.length * 2)).getD (i * 2 + j) undef = (encP p).getD j undef := by
        rw [List.getD_eq_getElem?_getD, List.getElem?_take_of_lt hk, Array.getElem?_toList]
        have h1 : i * 2 + j < cur.size := by omega
        have h2 : i * 2 + j < (sortP l).length * 2 := by omega
        have h3 := flatP h2
        have h4 : (sortP l).getD i (0, 0) = p := by rw [List.getD_eq_getElem?_getD, hp]; rfl
        rw [show (i * 2 + j) / 2 = i by omega, show (i * 2 + j) % 2 = j by omega, h4] at h3
        simp only [putCells, Array.getElem?_mapIdx, Array.getElem?_eq_getElem h1, Option.map_some, Option.getD_some, size_flatK, List.size_toArray, Nat.zero_le, true_and, Nat.zero_add, h2, if_true, Nat.sub_zero, id_eq]
        exact h3
      rw [hv]
      match j, hj2, hj with
      | 0, _, hj => simp at hj; subst hj; exact .v _ rfl
      | 1, _, hj => simp at hj; subst hj; exact .v _ rfl
end Mq

