/- Sorting prefixes: slices.SortFunc by the library's contract, laid at this seat; its closure. By this project. -/
import Derived.Test.YtokfackbnnkbnaaQ0
import Derived.Test.YtokfackbnnkbnaaMqPl
import Derived.Shelf.SlSortCmp.NoneTotal
set_option linter.unusedVariables false
set_option linter.unusedSimpArgs false

namespace Go.Proofs
open Go.Shelf Go.RowKit Go.Lib Go.Sort
def Try.sortPfx_ren : Go.Shelf.Ren := ⟨fun | 6 => 54 | 15 => 67 | 14 => 66 | 28 => 80 | 29 => 81 | 20 => 72 | 21 => 73 | 22 => 74 | 23 => 75 | 24 => 76 | 25 => 77 | 26 => 78 | 27 => 79 | 46 => 86 | 47 => 87 | 48 => 88 | 49 => 89 | 50 => 90 | 57 => 91 | n => n, fun | 22 => 79 | 24 => 47 | 25 => 126 | 3 => 3 | 39 => 154 | 0 => 0 | 53 => 45 | 55 => 169 | 4 => 4 | 46 => 162 | 45 => 161 | 50 => 130 | 5 => 5 | 9 => 9 | 66 => 174 | 70 => 178 | 76 => 180 | 77 => 181 | n => n, fun | n => n⟩
theorem Try.sortPfx : Go.Proofs.SlLaysF0.n6 Try.prog Try.sortPfx_ren := {
  mixed := by kernel_rfl, f6 := ⟨Try.f54.name, by kernel_rfl, Try.func54.trans (congrArg some (by kernel_rfl))⟩, f14 := ⟨Try.f66.name, by kernel_rfl, Try.func66.trans (congrArg some (by kernel_rfl))⟩, f15 := Try.func67.trans (congrArg some (by kernel_rfl)),
  f20 := ⟨Try.f72.name, by kernel_rfl, Try.func72.trans (congrArg some (by kernel_rfl))⟩, f21 := ⟨Try.f73.name, by kernel_rfl, Try.func73.trans (congrArg some (by kernel_rfl))⟩, f22 := ⟨Try.f74.name, by kernel_rfl, Try.func74.trans (congrArg some (by kernel_rfl))⟩, f23 := ⟨Try.f75.name, by kernel_rfl, Try.func75.trans (congrArg some (by kernel_rfl))⟩,
  f24 := ⟨Try.f76.name, by kernel_rfl, Try.func76.trans (congrArg some (by kernel_rfl))⟩, f25 := ⟨Try.f77.name, by kernel_rfl, Try.func77.trans (congrArg some (by kernel_rfl))⟩, f26 := ⟨Try.f78.name, by kernel_rfl, Try.func78.trans (congrArg some (by kernel_rfl))⟩, f27 := ⟨Try.f79.name, by kernel_rfl, Try.func79.trans (congrArg some (by kernel_rfl))⟩,
  f28 := Try.func80.trans (congrArg some (by kernel_rfl)), f29 := Try.func81.trans (congrArg some (by kernel_rfl)), f46 := ⟨Try.f86.name, by kernel_rfl, Try.func86.trans (congrArg some (by kernel_rfl))⟩, f47 := Try.func87.trans (congrArg some (by kernel_rfl)),
  f48 := Try.func88.trans (congrArg some (by kernel_rfl)), f49 := ⟨Try.f89.name, by kernel_rfl, Try.func89.trans (congrArg some (by kernel_rfl))⟩, f50 := ⟨Try.f90.name, by kernel_rfl, Try.func90.trans (congrArg some (by kernel_rfl))⟩, f57 := ⟨Try.f91.name, by kernel_rfl, Try.func91.trans (congrArg some (by kernel_rfl))⟩,
  t0 := Try.underlying0, a0 := Try.isAgg0, z0 := Try.sizeOf0, v0 := Try.zeroValue0,
  t3 := Try.underlying3, a3 := Try.isAgg3, z3 := Try.sizeOf3, v3 := Try.zeroValue3,
  t4 := Try.underlying4, a4 := Try.isAgg4, z4 := Try.sizeOf4, v4 := Try.zeroValue4,
  t5 := Try.underlying5, a5 := Try.isAgg5, z5 := Try.sizeOf5, v5 := Try.zeroValue5,
  t9 := Try.underlying9, a9 := Try.isAgg9, z9 := Try.sizeOf9, v9 := Try.zeroValue9,
  t22 := Try.underlying79, a22 := Try.isAgg79, z22 := Try.sizeOf79, v22 := Try.zeroValue79,
  t25 := Try.underlying126, a25 := Try.isAgg126, z25 := Try.sizeOf126, v25 := Try.zeroValue126,
  t39 := Try.underlying154, a39 := Try.isAgg154, z39 := Try.sizeOf154, v39 := Try.zeroValue154,
  t45 := Try.underlying161, a45 := Try.isAgg161, z45 := Try.sizeOf161, v45 := Try.zeroValue161,
  t46 := Try.underlying162, a46 := Try.isAgg162, z46 := Try.sizeOf162, v46 := Try.zeroValue162,
  t50 := Try.underlying130, a50 := Try.isAgg130, z50 := Try.sizeOf130, v50 := Try.zeroValue130,
  t53 := Try.underlying45, a53 := Try.isAgg45, z53 := Try.sizeOf45, v53 := Try.zeroValue45,
  t55 := Try.underlying169, a55 := Try.isAgg169, z55 := Try.sizeOf169, v55 := Try.zeroValue169,
  t66 := Try.underlying174, a66 := Try.isAgg174, z66 := Try.sizeOf174, v66 := Try.zeroValue174,
  t70 := Try.underlying178, a70 := Try.isAgg178, z70 := Try.sizeOf178, v70 := Try.zeroValue178,
  t76 := Try.underlying180, a76 := Try.isAgg180, z76 := Try.sizeOf180, v76 := Try.zeroValue180,
  t77 := Try.underlying181, a77 := Try.isAgg181, z77 := Try.sizeOf181, v77 := Try.zeroValue181 }
end Go.Proofs
namespace Mq
open Go Go.Sort Go.Proofs Go.RowKit
def pcmp (x y : Int × Int) : Int := if x = y then 0 else if pless x y then -1 else 1
def encP (x : Int × Int) : List Value := [.int .u32 x.1, .int .i64 x.2]
theorem lt_pcmp (x y : Int × Int) : ltOf pcmp x y = pless x y := by
  unfold ltOf pcmp
  by_cases h : x = y
  · subst h; simp [pless]
  · cases hp : pless x y <;> simp [h, hp]
theorem pless_iff (x y : Int × Int) : pless x y = true ↔ x.1 < y.1 ∨ (x.1 = y.1 ∧ x.2 < y.2) := by simp [pless]
theorem swoP : SWO (ltOf pcmp) where
  irrefl x := by rw [lt_pcmp]; simp [pless]
  trans x y z h1 h2 := by rw [lt_pcmp, pless_iff] at *; omega
  ntrans x y z h1 h2 := by
    rw [lt_pcmp] at *
    rw [← Bool.not_eq_true, pless_iff] at *
    omega
theorem totP (x y : Int × Int) (h1 : ltOf pcmp x y = false) (h2 : ltOf pcmp y x = false) : x = y := by
  rw [lt_pcmp, ← Bool.not_eq_true, pless_iff] at h1 h2
  exact Prod.ext (by omega) (by omega)
theorem sortP_eq (l : List (Int × Int)) : sortP l = l.mergeSort fun x y => !(ltOf pcmp) y x := by
  unfold sortP; congr 1; funext x y; rw [lt_pcmp]
end Mq
namespace Go.Proofs
open Go.Shelf Go.RowKit Go.Lib Go.Sort Mq
set_option maxHeartbeats 2000000
set_option linter.unusedSimpArgs false
theorem al2 (W : World) (a b : Obj) : ∃ os', (W.alloc a).alloc b = grow (W.drewN 0) os' := ⟨_, by rw [alloc_eq_grow, alloc_eq_grow, grow_grow]; rfl⟩
theorem al4 (W : World) (a b c d : Obj) : ∃ os', (((W.alloc a).alloc b).alloc c).alloc d = grow (W.drewN 0) os' := ⟨_, by rw [alloc_eq_grow, alloc_eq_grow, alloc_eq_grow, alloc_eq_grow, grow_grow, grow_grow, grow_grow]; rfl⟩
theorem Try.closP' (x1 x2 y1 y2 k : Int) (hk : Hid (k = pcmp (x1, x2) (y1, y2))) (W : World) : Calls Try.prog 55 #[.agg #[.int .u32 x1, .int .i64 x2], .agg #[.int .u32 y1, .int .i64 y2]] W fun e w' => e = .returned (.int .i64 k) ∧ ∃ q os', w' = grow (W.drewN q) os' := by
  go_enter Try.func55, Try.ntmps55
  go_wp2
  all_goals go_ret
  all_goals (refine ⟨?_, 0, ?_⟩; rotate_left; first | exact al2 _ _ _ | exact al4 _ _ _ _ _)
  all_goals (rw [hk.out]; simp_all [pcmp, pless, Array.getD])
  all_goals omega
theorem Try.closP (x y : Int × Int) (W : World) : Calls Try.prog 55 #[.agg (encP x).toArray, .agg (encP y).toArray] W fun e w' => e = .returned (.int .i64 (pcmp x y)) ∧ ∃ q os', w' = grow (W.drewN q) os' :=
  Try.closP' x.1 x.2 y.1 y.2 _ rfl W
theorem Try.cmpLaysP (blk off size : Nat) (w : World) : CmpLays Try.prog 55 #[] encP 2 pcmp blk off size w :=
  fun _ _ _ _ x y => Try.closP x y _
end Go.Proofs
namespace Mq
open Go Go.Sort Go.Proofs Go.RowKit
theorem rep_v {h : Hp} {v x : Value} (r : Rep h v (.v x)) : v = x := by cases r; rfl
theorem flatP {v : List (Int × Int)} {t : Nat} (h : t < v.length * 2) : (flatK encP 2 v.toArray)[t]! = (encP (v.getD (t / 2) (0, 0))).getD (t % 2) undef := by
  rw [get_flatK _ _ _ _ (by simpa using h)]
  have h2 : t / 2 < v.length := by omega
  have h3 : v.toArray[t / 2]! = v.getD (t / 2) (0, 0) := by simp [getElem!_pos, h2, List.getD, List.getElem?_eq_getElem h2]
  rw [h3]
  have h4 : t % 2 = 0 ∨ t % 2 = 1 := by omega
  rcases h4 with h4 | h4 <;> rw [h4] <;> rfl
theorem sort_fnT (l : List (Int × Int)) (hl : l.length ≤ 1048576) : FnT Try.prog 54 47 2 [.clo 55 []] (l.map pD) ((sortP l).map pD) (.tp []) := by
  refine ⟨⟨Try.f54, by kernel_rfl, by kernel_rfl, by kernel_rfl⟩, ?_⟩
  intro w h v vs xs hgx hvis hown hls hrr hvs hva
  have hvs1 : vs = #[.func (.func 55) #[] #[]] := by
    match vs, hvs with
    | ⟨[a]⟩, _ =>
      have := hva 0 _ rfl
      cases this with
      | clo _ cs _ hcl hcr =>
        have : cs = #[] := Array.eq_empty_of_size_eq_zero hcl
        subst this; rfl
  subst hvs1
  have hx : ∀ t, t < l.length * 2 → xs.getD t undef = (encP (l.getD (t / 2) (0, 0))).getD (t % 2) undef := by
    intro t ht
    have h2 : t / 2 < l.length := by omega
    have hg : (l.map pD)[t / 2]? = some (pD l[t / 2]) := by simp [h2]
    have h4 : t % 2 = 0 ∨ t % 2 = 1 := by omega
    have he : l.getD (t / 2) (0, 0) = l[t / 2] := by simp [List.getD, h2]
    rw [he]
    rcases h4 with h4 | h4
    · have := hrr (t / 2) _ 0 _ hg rfl
      rw [show t / 2 * 2 + 0 = t by omega] at this
      rw [h4]; exact rep_v this
    · have := hrr (t / 2) _ 1 _ hg rfl
      rw [show t / 2 * 2 + 1 = t by omega] at this
      rw [h4]; exact rep_v this
  rcases hown.2 with ⟨rfl, hn⟩ | ⟨b, cap, cur, rfl, _, hb, hc1, hc2, hcs, htk⟩
  · have hl0 : l = [] := List.eq_nil_of_length_eq_zero (by simpa using hn)
    subst hl0
    have hS := AnyF.slices_SortFunc_none Try.sortPfx none 0 (.func (.func 55) #[] #[]) w
    change Calls Try.prog 54 _ _ _ at hS
    rw [show (#[Value.slice none 0 0] ++ #[.func (.func 55) #[] #[]] : Array Value) = #[.slice none 0 0, .func (.func 55) #[] #[]] by simp]
    refine Calls.mono hS ?_
    rintro e w' ⟨rfl, rfl⟩
    exact ⟨_, [], rfl, .tp _ _ rfl (fun j a hj => by simp at hj), ⟨rfl, rfl, rfl, Nat.le_refl _, fun _ _ _ => rfl⟩, ⟨by simp [sortP], .inl ⟨rfl, by simp [sortP]⟩⟩, fun i es hi => by simp [sortP] at hi, fun i es j d hi => by simp [sortP] at hi⟩
  · have hl1 : (l.map pD).length = l.toArray.size := by simp
    have hcl : cap * 2 = cur.size := hcs.symm
    have hl2 : l.length ≤ cap := by simpa using hc1
    have hxl : xs.length = l.length * 2 := by simpa using hown.1
    have hcell : ∀ t, t < l.length * 2 → cur[t]? = some ((flatK encP 2 l.toArray)[t]!) := by
      intro t ht
      rw [flatP ht, ← hx t ht]
      have h1 : cur.toList[t]? = xs[t]? := by rw [← htk, List.getElem?_take_of_lt (by simpa using ht)]
      rw [← Array.getElem?_toList, h1, List.getElem?_eq_getElem (by omega), List.getD_eq_getElem?_getD, List.getElem?_eq_getElem (by omega)]
      rfl
    have hH : HoldsK encP 2 w b 0 l.toArray := by
      intro j hj
      have hj' : j < l.length * 2 := by simpa using hj
      refine ⟨?_, by simp [World.frozen?, hb]⟩
      simp only [World.cell?, hb, Nat.zero_add, Option.isSome_none, Bool.false_eq_true, if_false]
      exact hcell j hj'
    have eg : ∀ args w, (callFunc 55 args).run Try.prog w = .ok (.enter 55 args) w := enters_of Try.func55 (by kernel_rfl) rfl
    have hbl : b < w.heap.size := (Array.getElem?_eq_some_iff.1 hb).1
    have hS := AnyQ.slices_SortFunc_total Try.sortPfx 2 Try.isAgg47 Try.sizeOf47 encP (fun _ => rfl) (fun x v hv => by simp [encP] at hv; rcases hv with rfl | rfl <;> rfl) pcmp swoP 55 #[] b 0 cap l.toArray w eg (Try.cmpLaysP b 0 l.toArray.size w) hH hbl (by simp; omega) totP
    change Calls Try.prog 54 _ _ _ at hS
    rw [show (#[Value.slice (some ⟨b, 0, none⟩) (l.map pD).length cap] ++ #[.func (.func 55) #[] #[]] : Array Value) = #[.slice (some ⟨b, 0, none⟩) l.toArray.size cap, .func (.func 55) #[] #[]] by simp]
    refine Calls.mono hS ?_
    rintro e w' ⟨rfl, n, os, rfl⟩
    rw [← sortP_eq]
    have hw : (sortWorldK encP 2 w b 0 n (sortP l).toArray os).heap[b]? = some (.cells (putCells id 0 (flatK encP 2 (sortP l).toArray) cur) 47 (0, 0)) := by
      unfold sortWorldK
      rw [heap_grow_old _ _ (by simp only [size_putRowK]; exact hbl)]
      simp [putRowK, putRow, mapBlock, Sort.ahead, Array.getElem?_modify, hb, onCells]
    have hsl := sortP_len l
    refine ⟨_, (putCells id 0 (flatK encP 2 (sortP l).toArray) cur).toList.take (l.length * 2), rfl, .tp _ _ rfl (fun j a hj => by simp at hj), ⟨rfl, rfl, rfl, ?_, fun k hk hne => ?_⟩, ⟨?_, .inr ⟨b, cap, _, ?_, Nat.zero_le _, hw, ?_, hc2, ?_, ?_⟩⟩, fun i es hi => ?_, fun i es j d hi hj => ?_⟩
    · unfold sortWorldK; simp [grow, putRowK, putRow, mapBlock, Sort.ahead]
    · unfold sortWorldK
      rw [heap_grow_old _ _ (by simp only [size_putRowK]; exact hk)]
      have : b ≠ k := fun e => hne (by rw [e]; rfl)
      simp [putRowK, putRow, mapBlock, Sort.ahead, Array.getElem?_modify, this]
    · simp [putCells, hsl, ← hcl]; omega
    · simp [hsl]
    · simpa [hsl] using hl2
    · simp [putCells, hcs]
    · simp [hsl]
    · rw [List.getElem?_map] at hi
      obtain ⟨p, _, rfl⟩ := Option.map_eq_some_iff.1 hi
      rfl
    · rw [List.getElem?_map] at hi
      obtain ⟨p, hp, rfl⟩ := Option.map_eq_some_iff.1 hi
      have hip : i < (sortP l).length := (List.getElem?_eq_some_iff.1 hp).1
      have hj2 : j < 2 := (List.getElem?_eq_some_iff.1 hj).1
      have hk : i * 2 + j < l.length * 2 := by omega
      have hv : ((putCells id 0 (flatK encP 2 (sortP l).toArray) cur).toList.take (l.length * 2)).getD (i * 2 + j) undef = (encP p).getD j undef := by
        rw [List.getD_eq_getElem?_getD, List.getElem?_take_of_lt hk, Array.getElem?_toList]
        have h1 : i * 2 + j < cur.size := by omega
        have h2 : i * 2 + j < (sortP l).length * 2 := by omega
        have h3 := flatP h2
        have h4 : (sortP l).getD i (0, 0) = p := by rw [List.getD_eq_getElem?_getD, hp]; rfl
        rw [show (i * 2 + j) / 2 = i by omega, show (i * 2 + j) % 2 = j by omega, h4] at h3
        simp only [putCells, Array.getElem?_mapIdx, Array.getElem?_eq_getElem h1, Option.map_some, Option.getD_some, size_flatK, List.size_toArray, Nat.zero_le, true_and, Nat.zero_add, h2, if_true, Nat.sub_zero, id_eq]
        exact h3
      rw [hv]
      match j, hj2, hj with
      | 0, _, hj => simp at hj; subst hj; exact .v _ rfl
      | 1, _, hj => simp at hj; subst hj; exact .v _ rfl
end Mq

