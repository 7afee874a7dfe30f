/- What a sort by a function of the caller asks of it; without conditions. -/
import Derived.Test.YtcphpcjcbmennaaKg
import Derived.Shelf.SlSortCmp.Whole1
set_option linter.unusedVariables false
set_option linter.unusedSimpArgs false
set_option linter.unnecessarySimpa false
set_option linter.deprecated false
namespace Go.K
open Go
set_option linter.unusedVariables false
section
open Go.Proofs
theorem sortWorld_at {α : Type} [Inhabited α] (enc : α → Value) (w : World) (blk off m : Nat) (dk : Array α) (os : Array Obj) {k : Nat} (hk : k < w.heap.size) (hn : k ≠ blk) : (sortWorld enc w blk off m dk os).heap[k]? = w.heap[k]? := by
  unfold sortWorld Sort.grow
  show ((Sort.putRow enc (Sort.ahead w m) blk off dk).heap ++ os)[k]? = _
  rw [Array.getElem?_append_left (by rw [Sort.size_putRow]; exact hk)]
  simp only [Sort.putRow, Sort.mapBlock, Array.getElem?_modify]
  rw [if_neg (Ne.symm hn)]
  rfl
theorem sort_cmp {α : Type} [Inhabited α] {P : Program} {g blk off size : Nat} {cb : Array Value} {enc : α → Value} {cf : α → α → Int} {w : World} {r : Res} (hr : r.ok w.heap) (hap : ¬ r.fp blk)
    (hcmp : ∀ v, r.ok v.heap → ∀ x y, Calls P g (#[enc x, enc y] ++ cb) v fun e w' => e = .returned (.int .i64 (cf x y)) ∧ Tr v [] w' []) : CmpLays1 P g cb enc cf blk off size w := fun m os dk _ x y =>
  (hcmp _ (r.loc _ _ (fun b hb => sortWorld_at enc w blk off m dk os (r.ins _ hr b hb) (fun e => hap (e ▸ hb))) hr) x y).mono fun e w' ⟨he, ht⟩ => ⟨he, grown_of ht⟩
theorem sort_tr {α : Type} [Inhabited α] (enc : α → Value) {w : World} {blk c n : Nat} {E : TypeId} {xs junk : List Value} {d' : List α} {os : Array Obj} (hb : w.heap[blk]? = some (.cells (xs ++ junk).toArray E (0, 0))) (hl : (xs ++ junk).length = c * 1) (hd : d'.length = xs.length) :
    Tr w [row (some ⟨blk, 0, none⟩) c 1 E xs] (sortWorld enc w blk 0 n d'.toArray os) [row (some ⟨blk, 0, none⟩) c 1 E (d'.map enc)] := by
  have hlt := (Array.getElem?_eq_some_iff.1 hb).1
  have hbl : (sortWorld enc w blk 0 n d'.toArray os).heap[blk]? = some (.cells (d'.map enc ++ junk).toArray E (0, 0)) := by
    unfold sortWorld Sort.grow
    show ((Sort.putRow enc (Sort.ahead w n) blk 0 d'.toArray).heap ++ os)[blk]? = _
    rw [Array.getElem?_append_left (by rw [Sort.size_putRow]; exact hlt)]
    simp only [Sort.putRow, Sort.mapBlock, Array.getElem?_modify]
    rw [if_pos trivial]
    show (w.heap[blk]?).map (Sort.onCells (Sort.putCells enc 0 d'.toArray)) = _
    rw [hb]
    simp only [Option.map_some, Sort.onCells, Option.some.injEq, Obj.cells.injEq, and_true]
    apply Array.ext_getElem?
    intro i
    simp only [Sort.putCells, Array.getElem?_mapIdx, List.getElem?_toArray, List.size_toArray]
    by_cases hi : i < xs.length
    · rw [List.getElem?_append_left hi, List.getElem?_append_left (by simp; omega), List.getElem?_eq_getElem hi]
      simp only [Option.map_some]
      rw [if_pos ⟨by omega, by omega⟩, List.getElem?_map, List.getElem?_eq_getElem (by omega)]
      simp only [Option.map_some, Nat.sub_zero]
      rw [getElem!_pos d'.toArray i (by simp; omega)]
      simp
    · rw [List.getElem?_append_right (by omega), List.getElem?_append_right (by simp; omega)]
      simp only [List.length_map, hd]
      cases junk[i - xs.length]? with
      | none => rfl
      | some y => simp only [Option.map_some]; rw [if_neg (by omega)]
  refine ⟨rfl, rfl, rfl, ?_, ?_, fun b hb2 hn => sortWorld_at enc w blk 0 n d'.toArray os hb2 (fun e => hn _ List.mem_cons_self ⟨_, rfl, e⟩), Disj.one _, fun r hr => ?_, fun r hr b hb2 => ?_⟩
  · show w.drawn ≤ w.drawn + n; omega
  · show w.heap.size ≤ ((Sort.putRow enc (Sort.ahead w n) blk 0 d'.toArray).heap ++ os).size
    rw [Array.size_append, Sort.size_putRow]
    show w.heap.size ≤ w.heap.size + _
    omega
  · simp only [List.mem_singleton] at hr
    subst hr
    refine ⟨fun h => by simp at h, fun p hp => ?_⟩
    simp only [Option.some.injEq] at hp
    subst hp
    refine ⟨rfl, junk, hbl, ?_⟩
    rw [← hl]; simp [hd]
  · simp only [List.mem_singleton] at hr
    subst hr
    exact .inr ⟨_, List.mem_cons_self, hb2⟩
end
end Go.K
