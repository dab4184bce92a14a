/- Sorting prefixes: slices.SortFunc by the library's contract, laid at this seat; its closure. By this project. -/
import Derived.Test.YtokfackbnnkbnaaGreatDoorQ0
import Derived.Test.YtokfackbnnkbnaaGreatDoorMqPl
import Derived.Shelf.SlSortCmp.NoneTotal
set_option linter.unusedVariables false
set_option linter.unusedSimpArgs false

namespace Go.Proofs
open Go.Shelf Go.RowKit Go.Lib Go.Sort
def Tryz.sortPfx_ren : Go.Shelf.Ren := ⟨fun | 6 => 37 | 15 => 61 | 14 => 60 | 28 => 81 | 29 => 82 | 20 => 73 | 21 => 74 | 22 => 75 | 23 => 76 | 24 => 77 | 25 => 78 | 26 => 79 | 27 => 80 | 46 => 87 | 47 => 88 | 48 => 89 | 49 => 90 | 50 => 91 | 57 => 93 | n => n, fun | 22 => 67 | 24 => 35 | 25 => 108 | 3 => 3 | 39 => 152 | 0 => 0 | 53 => 33 | 55 => 198 | 4 => 4 | 46 => 191 | 45 => 190 | 50 => 112 | 5 => 5 | 9 => 9 | 66 => 202 | 70 => 206 | 76 => 209 | 77 => 210 | n => n, fun | n => n⟩
theorem Tryz.sortPfx : Go.Proofs.SlLaysF0.n6 Tryz.prog Tryz.sortPfx_ren := {
  mixed := by kernel_rfl, f6 := ⟨Tryz.f37.name, by kernel_rfl, Tryz.func37.trans (congrArg some (by kernel_rfl))⟩, f14 := ⟨Tryz.f60.name, by kernel_rfl, Tryz.func60.trans (congrArg some (by kernel_rfl))⟩, f15 := Tryz.func61.trans (congrArg some (by kernel_rfl)),
  f20 := ⟨Tryz.f73.name, by kernel_rfl, Tryz.func73.trans (congrArg some (by kernel_rfl))⟩, f21 := ⟨Tryz.f74.name, by kernel_rfl, Tryz.func74.trans (congrArg some (by kernel_rfl))⟩, f22 := ⟨Tryz.f75.name, by kernel_rfl, Tryz.func75.trans (congrArg some (by kernel_rfl))⟩, f23 := ⟨Tryz.f76.name, by kernel_rfl, Tryz.func76.trans (congrArg some (by kernel_rfl))⟩,
  f24 := ⟨Tryz.f77.name, by kernel_rfl, Tryz.func77.trans (congrArg some (by kernel_rfl))⟩, f25 := ⟨Tryz.f78.name, by kernel_rfl, Tryz.func78.trans (congrArg some (by kernel_rfl))⟩, f26 := ⟨Tryz.f79.name, by kernel_rfl, Tryz.func79.trans (congrArg some (by kernel_rfl))⟩, f27 := ⟨Tryz.f80.name, by kernel_rfl, Tryz.func80.trans (congrArg some (by kernel_rfl))⟩,
  f28 := Tryz.func81.trans (congrArg some (by kernel_rfl)), f29 := Tryz.func82.trans (congrArg some (by kernel_rfl)), f46 := ⟨Tryz.f87.name, by kernel_rfl, Tryz.func87.trans (congrArg some (by kernel_rfl))⟩, f47 := Tryz.func88.trans (congrArg some (by kernel_rfl)),
  f48 := Tryz.func89.trans (congrArg some (by kernel_rfl)), f49 := ⟨Tryz.f90.name, by kernel_rfl, Tryz.func90.trans (congrArg some (by kernel_rfl))⟩, f50 := ⟨Tryz.f91.name, by kernel_rfl, Tryz.func91.trans (congrArg some (by kernel_rfl))⟩, f57 := ⟨Tryz.f93.name, by kernel_rfl, Tryz.func93.trans (congrArg some (by kernel_rfl))⟩,
  t0 := Tryz.underlying0, a0 := Tryz.isAgg0, z0 := Tryz.sizeOf0, v0 := Tryz.zeroValue0,
  t3 := Tryz.underlying3, a3 := Tryz.isAgg3, z3 := Tryz.sizeOf3, v3 := Tryz.zeroValue3,
  t4 := Tryz.underlying4, a4 := Tryz.isAgg4, z4 := Tryz.sizeOf4, v4 := Tryz.zeroValue4,
  t5 := Tryz.underlying5, a5 := Tryz.isAgg5, z5 := Tryz.sizeOf5, v5 := Tryz.zeroValue5,
  t9 := Tryz.underlying9, a9 := Tryz.isAgg9, z9 := Tryz.sizeOf9, v9 := Tryz.zeroValue9,
  t22 := Tryz.underlying67, a22 := Tryz.isAgg67, z22 := Tryz.sizeOf67, v22 := Tryz.zeroValue67,
  t25 := Tryz.underlying108, a25 := Tryz.isAgg108, z25 := Tryz.sizeOf108, v25 := Tryz.zeroValue108,
  t39 := Tryz.underlying152, a39 := Tryz.isAgg152, z39 := Tryz.sizeOf152, v39 := Tryz.zeroValue152,
  t45 := Tryz.underlying190, a45 := Tryz.isAgg190, z45 := Tryz.sizeOf190, v45 := Tryz.zeroValue190,
  t46 := Tryz.underlying191, a46 := Tryz.isAgg191, z46 := Tryz.sizeOf191, v46 := Tryz.zeroValue191,
  t50 := Tryz.underlying112, a50 := Tryz.isAgg112, z50 := Tryz.sizeOf112, v50 := Tryz.zeroValue112,
  t53 := Tryz.underlying33, a53 := Tryz.isAgg33, z53 := Tryz.sizeOf33, v53 := Tryz.zeroValue33,
  t55 := Tryz.underlying198, a55 := Tryz.isAgg198, z55 := Tryz.sizeOf198, v55 := Tryz.zeroValue198,
  t66 := Tryz.underlying202, a66 := Tryz.isAgg202, z66 := Tryz.sizeOf202, v66 := Tryz.zeroValue202,
  t70 := Tryz.underlying206, a70 := Tryz.isAgg206, z70 := Tryz.sizeOf206, v70 := Tryz.zeroValue206,
  t76 := Tryz.underlying209, a76 := Tryz.isAgg209, z76 := Tryz.sizeOf209, v76 := Tryz.zeroValue209,
  t77 := Tryz.underlying210, a77 := Tryz.isAgg210, z77 := Tryz.sizeOf210, v77 := Tryz.zeroValue210 }
end Go.Proofs
namespace Mq
open Go Go.Sort Go.Proofs Go.RowKit
def pcmp (x y : Int × Int) : Int := if x = y then 0 else if pless x y then -1 else 1
def encP (x : Int × Int) : List Value := [.int .u32 x.1, .int .i64 x.2]
theorem lt_pcmp (x y : Int × Int) : ltOf pcmp x y = pless x y := by
  unfold ltOf pcmp
  by_cases h : x = y
  · subst h; simp [pless]
  · cases hp : pless x y <;> simp [h, hp]
theorem pless_iff (x y : Int × Int) : pless x y = true ↔ x.1 < y.1 ∨ (x.1 = y.1 ∧ x.2 < y.2) := by simp [pless]
theorem swoP : SWO (ltOf pcmp) where
  irrefl x := by rw [lt_pcmp]; simp [pless]
  trans x y z h1 h2 := by rw [lt_pcmp, pless_iff] at *; omega
  ntrans x y z h1 h2 := by
    rw [lt_pcmp] at *
    rw [← Bool.not_eq_true, pless_iff] at *
    omega
theorem totP (x y : Int × Int) (h1 : ltOf pcmp x y = false) (h2 : ltOf pcmp y x = false) : x = y := by
  rw [lt_pcmp, ← Bool.not_eq_true, pless_iff] at h1 h2
  exact Prod.ext (by omega) (by omega)
theorem sortP_eq (l : List (Int × Int)) : sortP l = l.mergeSort fun x y => !(ltOf pcmp) y x := by
  unfold sortP; congr 1; funext x y; rw [lt_pcmp]
end Mq
namespace Go.Proofs
open Go.Shelf Go.RowKit Go.Lib Go.Sort Mq
set_option maxHeartbeats 2000000
set_option linter.unusedSimpArgs false
theorem al2 (W : World) (a b : Obj) : ∃ os', (W.alloc a).alloc b = grow (W.drewN 0) os' := ⟨_, by rw [alloc_eq_grow, alloc_eq_grow, grow_grow]; rfl⟩
theorem al4 (W : World) (a b c d : Obj) : ∃ os', (((W.alloc a).alloc b).alloc c).alloc d = grow (W.drewN 0) os' := ⟨_, by rw [alloc_eq_grow, alloc_eq_grow, alloc_eq_grow, alloc_eq_grow, grow_grow, grow_grow, grow_grow]; rfl⟩
theorem Tryz.closP' (x1 x2 y1 y2 k : Int) (hk : Hid (k = pcmp (x1, x2) (y1, y2))) (W : World) : Calls Tryz.prog 38 #[.agg #[.int .u32 x1, .int .i64 x2], .agg #[.int .u32 y1, .int .i64 y2]] W fun e w' => e = .returned (.int .i64 k) ∧ ∃ q os', w' = grow (W.drewN q) os' := by
  go_enter Tryz.func38, Tryz.ntmps38
  go_wp2
  all_goals go_ret
  all_goals (refine ⟨?_, 0, ?_⟩; rotate_left; first | exact al2 _ _ _ | exact al4 _ _ _ _ _)
  all_goals (rw [hk.out]; simp_all [pcmp, pless, Array.getD])
  all_goals omega
theorem Tryz.closP (x y : Int × Int) (W : World) : Calls Tryz.prog 38 #[.agg (encP x).toArray, .agg (encP y).toArray] W fun e w' => e = .returned (.int .i64 (pcmp x y)) ∧ ∃ q os', w' = grow (W.drewN q) os' :=
  Tryz.closP' x.1 x.2 y.1 y.2 _ rfl W
theorem Tryz.cmpLaysP (blk off size : Nat) (w : World) : CmpLays Tryz.prog 38 #[] encP 2 pcmp blk off size w :=
  fun _ _ _ _ x y => Tryz.closP x y _
end Go.Proofs
namespace Mq
open Go Go.Sort Go.Proofs Go.RowKit
theorem rep_v {h : Hp} {v x : Value} (r : Rep h v (.v x)) : v = x := by cases r; rfl
theorem flatP {v : List (Int × Int)} {t : Nat} (h : t < v.length * 2) : (flatK encP 2 v.toArray)[t]! = (encP (v.getD (t / 2) (0, 0))).getD (t % 2) undef := by
  rw [get_flatK _ _ _ _ (by simpa using h)]
  have h2 : t / 2 < v.length := by omega
  have h3 : v.toArray[t / 2]! = v.getD (t / 2) (0, 0) := by simp [getElem!_pos, h2, List.getD, List.getElem?_eq_getElem h2]
  rw [h3]
  have h4 : t % 2 = 0 ∨ t % 2 = 1 := by omega
  rcases h4 with h4 | h4 <;> rw [h4] <;> rfl
theorem sort_fnT (l : List (Int × Int)) (hl : l.length ≤ 1048576) : FnT Tryz.prog 37 35 2 [.clo 38 []] (l.map pD) ((sortP l).map pD) (.tp []) := by
  refine ⟨⟨Tryz.f37, by kernel_rfl, by kernel_rfl, by kernel_rfl⟩, ?_⟩
  intro w h v vs xs hgx hvis hown hls hrr hvs hva
  have hvs1 : vs = #[.func (.func 38) #[] #[]] := by
    match vs, hvs with
    | ⟨[a]⟩, _ =>
      have := hva 0 _ rfl
      cases this with
      | clo _ cs _ hcl hcr =>
        have : cs = #[] := Array.eq_empty_of_size_eq_zero hcl
        subst this; rfl
  subst hvs1
  have hx : ∀ t, t < l.length * 2 → xs.getD t undef = (encP (l.getD (t / 2) (0, 0))).getD (t % 2) undef := by
    intro t ht
    have h2 : t / 2 < l.length := by omega
    have hg : (l.map pD)[t / 2]? = some (pD l[t / 2]) := by simp [h2]
    have h4 : t % 2 = 0 ∨ t % 2 = 1 := by omega
    have he : l.getD (t / 2) (0, 0) = l[t / 2] := by simp [List.getD, h2]
    rw [he]
    rcases h4 with h4 | h4
    · have := hrr (t / 2) _ 0 _ hg rfl
      rw [show t / 2 * 2 + 0 = t by omega] at this
      rw [h4]; exact rep_v this
    · have := hrr (t / 2) _ 1 _ hg rfl
      rw [show t / 2 * 2 + 1 = t by omega] at this
      rw [h4]; exact rep_v this
  rcases hown.2 with ⟨rfl, hn⟩ | ⟨b, cap, cur, rfl, _, hb, hc1, hc2, hcs, htk⟩
  · have hl0 : l = [] := List.eq_nil_of_length_eq_zero (by simpa using hn)
    subst hl0
    have hS := AnyF.slices_SortFunc_none Tryz.sortPfx none 0 (.func (.func 38) #[] #[]) w
    change Calls Tryz.prog 37 _ _ _ at hS
    rw [show (#[Value.slice none 0 0] ++ #[.func (.func 38) #[] #[]] : Array Value) = #[.slice none 0 0, .func (.func 38) #[] #[]] by simp]
    refine Calls.mono hS ?_
    rintro e w' ⟨rfl, rfl⟩
    exact ⟨_, [], rfl, .tp _ _ rfl (fun j a hj => by simp at hj), ⟨rfl, rfl, rfl, Nat.le_refl _, fun _ _ _ => rfl⟩, ⟨by simp [sortP], .inl ⟨rfl, by simp [sortP]⟩⟩, fun i es hi => by simp [sortP] at hi, fun i es j d hi => by simp [sortP] at hi⟩
  · have hl1 : (l.map pD).length = l.toArray.size := by simp
    have hcl : cap * 2 = cur.size := hcs.symm
    have hl2 : l.length ≤ cap := by simpa using hc1
    have hxl : xs.length = l.length * 2 := by simpa using hown.1
    have hcell : ∀ t, t < l.length * 2 → cur[t]? = some ((flatK encP 2 l.toArray)[t]!) := by
      intro t ht
      rw [flatP ht, ← hx t ht]
      have h1 : cur.toList[t]? = xs[t]? := by rw [← htk, List.getElem?_take_of_lt (by simpa using ht)]
      rw [← Array.getElem?_toList, h1, List.getElem?_eq_getElem (by omega), List.getD_eq_getElem?_getD, List.getElem?_eq_getElem (by omega)]
      rfl
    have hH : HoldsK encP 2 w b 0 l.toArray := by
      intro j hj
      have hj' : j < l.length * 2 := by simpa using hj
      refine ⟨?_, by simp [World.frozen?, hb]⟩
      simp only [World.cell?, hb, Nat.zero_add, Option.isSome_none, Bool.false_eq_true, if_false]
      exact hcell j hj'
    have eg : ∀ args w, (callFunc 38 args).run Tryz.prog w = .ok (.enter 38 args) w := enters_of Tryz.func38 (by kernel_rfl) rfl
    have hbl : b < w.heap.size := (Array.getElem?_eq_some_iff.1 hb).1
    have hS := AnyQ.slices_SortFunc_total Tryz.sortPfx 2 Tryz.isAgg35 Tryz.sizeOf35 encP (fun _ => rfl) (fun x v hv => by simp [encP] at hv; rcases hv with rfl | rfl <;> rfl) pcmp swoP 38 #[] b 0 cap l.toArray w eg (Tryz.cmpLaysP b 0 l.toArray.size w) hH hbl (by simp; omega) totP
    change Calls Tryz.prog 37 _ _ _ at hS
    rw [show (#[Value.slice (some ⟨b, 0, none⟩) (l.map pD).length cap] ++ #[.func (.func 38) #[] #[]] : Array Value) = #[.slice (some ⟨b, 0, none⟩) l.toArray.size cap, .func (.func 38) #[] #[]] by simp]
    refine Calls.mono hS ?_
    rintro e w' ⟨rfl, n, os, rfl⟩
    rw [← sortP_eq]
    have hw : (sortWorldK encP 2 w b 0 n (sortP l).toArray os).heap[b]? = some (.cells (putCells id 0 (flatK encP 2 (sortP l).toArray) cur) 35 (0, 0)) := by
      unfold sortWorldK
      rw [heap_grow_old _ _ (by simp only [size_putRowK]; exact hbl)]
      simp [putRowK, putRow, mapBlock, Sort.ahead, Array.getElem?_modify, hb, onCells]
    have hsl := sortP_len l
    refine ⟨_, (putCells id 0 (flatK encP 2 (sortP l).toArray) cur).toList.take (l.length * 2), rfl, .tp _ _ rfl (fun j a hj => by simp at hj), ⟨rfl, rfl, rfl, ?_, fun k hk hne => ?_⟩, ⟨?_, .inr ⟨b, cap, _, ?_, Nat.zero_le _, hw, ?_, hc2, ?_, ?_⟩⟩, fun i es hi => ?_, fun i es j d hi hj => ?_⟩
    · unfold sortWorldK; simp [grow, putRowK, putRow, mapBlock, Sort.ahead]
    · unfold sortWorldK
      rw [heap_grow_old _ _ (by simp only [size_putRowK]; exact hk)]
      have : b ≠ k := fun e => hne (by rw [e]; rfl)
      simp [putRowK, putRow, mapBlock, Sort.ahead, Array.getElem?_modify, this]
    · simp [putCells, hsl, ← hcl]; omega
    · simp [hsl]
    · simpa [hsl] using hl2
    · simp [putCells, hcs]
    · simp [hsl]
    · rw [List.getElem?_map] at hi
      obtain ⟨p, _, rfl⟩ := Option.map_eq_some_iff.1 hi
      rfl
    · rw [List.getElem?_map] at hi
      obtain ⟨p, hp, rfl⟩ := Option.map_eq_some_iff.1 hi
      have hip : i < (sortP l).length := (List.getElem?_eq_some_iff.1 hp).1
      have hj2 : j < 2 := (List.getElem?_eq_some_iff.1 hj).1
      have hk : i * 2 + j < l.length * 2 := by omega
      have hv : ((putCells id 0 (flatK encP 2 (sortP l).toArray) cur).toList.take (l.length * 2)).getD (i * 2 + j) undef = (encP p).getD j undef := by
        rw [List.getD_eq_getElem?_getD, List.getElem?_take_of_lt hk, Array.getElem?_toList]
        have h1 : i * 2 + j < cur.size := by omega
        have h2 : i * 2 + j < (sortP l).length * 2 := by omega
        have h3 := flatP h2
        have h4 : (sortP l).getD i (0, 0) = p := by rw [List.getD_eq_getElem?_getD, hp]; rfl
        rw [show (i * 2 + j) / 2 = i by omega, show (i * 2 + j) % 2 = j by omega, h4] at h3
        simp only [putCells, Array.getElem?_mapIdx, Array.getElem?_eq_getElem h1, Option.map_some, Option.getD_some, size_flatK, List.size_toArray, Nat.zero_le, true_and, Nat.zero_add, h2, if_true, Nat.sub_zero, id_eq]
        exact h3
      rw [hv]
      match j, hj2, hj with
      | 0, _, hj => simp at hj; subst hj; exact .v _ rfl
      | 1, _, hj => simp at hj; subst hj; exact .v _ rfl
end Mq

