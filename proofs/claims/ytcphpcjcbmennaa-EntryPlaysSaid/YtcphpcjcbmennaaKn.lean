/- The sorts of the library, over whatever program; without conditions. -/
import Derived.Test.YtcphpcjcbmennaaKm
import Derived.Shelf.SlIterI.Nil
import Derived.Shelf.SortM.Plain
import Derived.Shelf.SortM.SortNone
import Derived.Shelf.SlSortCmp.Whole1
import Derived.Shelf.SlSortCmp.NoneTotal
set_option linter.unusedVariables false
set_option linter.unusedSimpArgs false
set_option linter.unnecessarySimpa false
set_option linter.deprecated false
namespace Go.K
open Go Go.Proofs
set_option linter.unusedVariables false
/-- A map's entries as they can be: each key once, a number of the kind; each laid at another time, ahead of the clock. -/
structure MOk (l : List ME) (c : Nat) : Prop where
  lt : ∀ x ∈ l, x.n < c
  born : (l.map ME.n).Nodup
  keys : (l.map ME.k).Nodup
  wf : ∀ x ∈ l, -9223372036854775808 ≤ x.k ∧ x.k ≤ 9223372036854775807
def isort (l : List Int) : List Int := l.mergeSort fun x y => decide (x ≤ y)
theorem isort_perm {l m : List Int} (h : l.Perm m) : isort l = isort m :=
  List.Perm.eq_of_pairwise (le := fun a b => decide (a ≤ b) = true) (fun a b _ _ h1 h2 => by simp at h1 h2; omega)
    (List.pairwise_mergeSort (fun a b c h1 h2 => by simp at h1 h2 ⊢; omega) (fun a b => by simp; omega) l)
    (List.pairwise_mergeSort (fun a b c h1 h2 => by simp at h1 h2 ⊢; omega) (fun a b => by simp; omega) m)
    ((List.mergeSort_perm l _).trans (h.trans (List.mergeSort_perm m _).symm))
def R0 : Value → Option (DataW Unit × List MemPlace) := fun _ => some (.nil, [])
theorem fit_of {P : Program} {k : TypeId} {l : List ME} {c : Nat} (hk : P.underlying k = some (.int .i64)) (h : MOk l c) (hl : l.length ≤ maxLen) : WideElems.Fit P k R0 (ments l) c := by
  refine ⟨by simpa [ments] using hl, ⟨?_, ?_, ?_⟩, ?_⟩
  · intro x hx
    simp only [ments, List.mem_map] at hx
    obtain ⟨y, hy, rfl⟩ := hx
    exact h.lt y hy
  · have : (ments l).toList.map (·.born) = l.map ME.n := by simp [ments, ME.e, Function.comp_def]
    rw [this]; exact h.born
  · have : (ments l).toList.map (·.key) = (l.map ME.k).map (Value.int .i64) := by simp [ments, ME.e, Function.comp_def]
    rw [this]
    exact (List.pairwise_map).2 (h.keys.imp fun hne e => hne (by simpa using e))
  · intro x hx
    simp only [ments, List.mem_map] at hx
    obtain ⟨y, hy, rfl⟩ := hx
    have hw := h.wf y hy
    have hw' : (Lit.int .i64 y.k).wf = true := by simp [Lit.wf, IntKind.min, IntKind.max, IntKind.bits, IntKind.signed]; omega
    exact ⟨_, WideElems.rd_mk (Maps.keyOf_int_mk hk hw') rfl⟩
theorem intKeys_perm {P : Program} {k : TypeId} {l : List ME} {c : Nat} (hk : P.underlying k = some (.int .i64)) (h : MOk l c) :
    (Go.intKeys (DataW.map (((ments l).toList.map (WideElems.rg P k R0)).foldr DataW.insert []))).Perm (l.map ME.k) := by
  have h1 := (WideShapes.sorted_perm ((ments l).toList.map (WideElems.rg P k R0))).map (fun p => Go.intOf p.1)
  refine h1.trans ?_
  have : ((ments l).toList.map (WideElems.rg P k R0)).map (fun p => Go.intOf p.1) = l.map ME.k := by
    simp only [ments, List.map_map]
    refine List.map_congr_left fun y hy => ?_
    have hw := h.wf y hy
    have hw' : (Lit.int .i64 y.k).wf = true := by simp [Lit.wf, IntKind.min, IntKind.max, IntKind.bits, IntKind.signed]; omega
    have := WideElems.rg_of (WideElems.rd_mk (R := R0) (val := y.v) (born := y.n) (Maps.keyOf_int_mk hk hw') rfl)
    simp only [Function.comp, ME.e, this]
    rfl
  rw [this]
theorem row_of_owns {w w' : World} {E : TypeId} {k n : Nat} {v : Value} {xs : List Value} (ho : w'.ownsRow w.heap.size E k v n xs) (hB : RowKit.Below w.heap.size w w') : ∃ a cap, v = .slice a n cap ∧ Tr w [wildR] w' [row a cap k E xs] := by
  obtain ⟨hl, ⟨rfl, rfl⟩ | ⟨g, cap, cur, rfl, hbase, hg, h1, h2, h3, h4⟩⟩ := ho
  · refine ⟨none, 0, rfl, hB.os, hB.tape, hB.output, fun hn => absurd (hn wildR List.mem_cons_self) (by decide), hB.size, fun b hb _ => hB.block b hb, Disj.one _, ?_, ?_⟩
    · intro r hr
      simp only [List.mem_singleton] at hr
      subst hr
      exact ⟨fun _ => ⟨by simpa using hl, rfl⟩, fun p hp => by simp at hp⟩
    · intro r hr b hb
      simp only [List.mem_singleton] at hr
      subst hr
      obtain ⟨p, hp, _⟩ := hb
      simp at hp
  · refine ⟨some ⟨g, 0, none⟩, cap, rfl, hB.os, hB.tape, hB.output, fun hn => absurd (hn wildR List.mem_cons_self) (by decide), hB.size, fun b hb _ => hB.block b hb, Disj.one _, ?_, ?_⟩
    · intro r hr
      simp only [List.mem_singleton] at hr
      subst hr
      refine ⟨fun h => by simp at h, fun p hp => ?_⟩
      simp only [Option.some.injEq] at hp
      subst hp
      refine ⟨rfl, cur.toList.drop (n * k), ?_, ?_⟩
      · rw [← h4, List.take_append_drop]; exact hg
      · rw [← h4, List.take_append_drop]; simpa using h3
    · intro r hr b hb
      simp only [List.mem_singleton] at hr
      subst hr
      obtain ⟨p, hp, hb⟩ := hb
      simp only [Option.some.injEq] at hp
      subst hp hb
      exact .inl hbase
theorem calls_keys {P : Program} {ρ : Shelf.Ren} (L : SlLaysZI.n7 P ρ) (m : Option Nat) (w : World) :
    Calls P (ρ.f 7) #[.map m] w fun e w' => e = .returned (.func (.func (ρ.f 10)) #[] #[.pointer (some ⟨w.heap.size, 0, none⟩)]) ∧ w' = w.alloc (.cells #[.map m] (ρ.t 23)) :=
  (callsIn_wide (n := 5)).1 (AnyZI.keys_in L Fence.wide 5 trivial rfl m w)
theorem calls_sorted {P : Program} {ρ σ τ : Shelf.Ren} (LK : SlLaysZI.n7 P ρ) (LS : SlLaysZI.n6 P σ) (LO : SlLaysM.n5 P τ) (h95 : σ.f 9 = τ.f 5)
    (e9 : ∀ args w, (callFunc (σ.f 9) args).run P w = .ok (.enter (σ.f 9) args) w) (e10 : ∀ args w, (callFunc (ρ.f 10) args).run P w = .ok (.enter (ρ.f 10) args) w)
    {b B c : Nat} {l : List ME} {w : World} {T : TypeId} (hm : w.heap[b]? = some (.map (ments l) c)) (hB : w.heap[B]? = some (.cells #[.map (some b)] T (0, 0))) (hk : P.underlying (ρ.t 26) = some (.int .i64)) (hok : MOk l c) (hl : l.length ≤ 17592186044416) :
    Calls P (σ.f 6) #[.func (.func (ρ.f 10)) #[] #[.pointer (some ⟨B, 0, none⟩)]] w fun e w' => ∃ a cap, e = .returned (.slice a l.length cap) ∧ Tr w [wildR] w' [row a cap 1 (σ.t 26) ((isort (l.map ME.k)).map (Value.int .i64))] := by
  have hml : l.length ≤ maxLen := by unfold maxLen; omega
  have hown : w.ownsMap P (ρ.t 26) R0 b l.length (.map (((ments l).toList.map (WideElems.rg P (ρ.t 26) R0)).foldr DataW.insert [])) := ⟨ments l, c, hm, fit_of hk hok hml, by simp [ments], rfl⟩
  have hsz : Maps.size (.map (((ments l).toList.map (WideElems.rg P (ρ.t 26) R0)).foldr DataW.insert []) : DataW Unit) = l.length := by
    simp only [Maps.size]
    rw [(WideShapes.sorted_perm _).length_eq]
    simp [ments]
  have hseq := AnyZI.keys_gives (ρ := ρ) { LK with } Fence.wide 2 trivial rfl (by omega) B b l.length _ w (Array.getElem?_eq_some_iff.1 hB).1 (by simp [World.cell?, hB]) hown
  have hsorts : AnyZI.SortsIn P σ Fence.wide 4 := by
    unfold AnyZI.SortsIn
    rw [h95]
    exact ⟨fun blk off cap ss W hH hblk hs => callsIn_wide.2 (AnyM.slices_Sort_int LO blk off cap ss W hH hblk hs), fun p cap W => callsIn_wide.2 (AnyM.slices_Sort_int_none LO p cap W)⟩
  have := (callsIn_wide (n := 5)).1 (AnyZI.sorted_in LS Fence.wide 5 trivial trivial trivial trivial rfl (by omega) hsorts e9 (ρ.f 10) #[.pointer (some ⟨B, 0, none⟩)] trivial e10 _ _ (by rw [hsz]; exact hml) (by rw [hsz]; omega) w hseq)
  refine this.mono ?_
  rintro e w' ⟨v, ss, rfl, hS, hrow, _, hbel⟩
  have hp : ss.Perm (l.map ME.k) := hS.trans (intKeys_perm hk hok)
  obtain ⟨a, cap, rfl, hT⟩ := row_of_owns hrow hbel
  have h1 : ss.length = l.length := by rw [hp.length_eq, List.length_map]
  have h2 : (ss.mergeSort fun x y => decide (x ≤ y)) = isort (l.map ME.k) := isort_perm hp
  rw [h2] at hT
  exact ⟨a, cap, by rw [h1], hT⟩
end Go.K

namespace Go.K
open Go
set_option linter.unusedVariables false
section
open Go.Proofs
theorem sortWorld_at {α : Type} [Inhabited α] (enc : α → Value) (w : World) (blk off m : Nat) (dk : Array α) (os : Array Obj) {k : Nat} (hk : k < w.heap.size) (hn : k ≠ blk) : (sortWorld enc w blk off m dk os).heap[k]? = w.heap[k]? := by
  unfold sortWorld Sort.grow
  show ((Sort.putRow enc (Sort.ahead w m) blk off dk).heap ++ os)[k]? = _
  rw [Array.getElem?_append_left (by rw [Sort.size_putRow]; exact hk)]
  simp only [Sort.putRow, Sort.mapBlock, Array.getElem?_modify]
  rw [if_neg (Ne.symm hn)]
  rfl
theorem sort_cmp {α : Type} [Inhabited α] {P : Program} {g blk off size : Nat} {cb : Array Value} {enc : α → Value} {cf : α → α → Int} {w : World} {r : Res} (hr : r.ok w.heap) (hap : ¬ r.fp blk)
    (hcmp : ∀ v, r.ok v.heap → ∀ x y, Calls P g (#[enc x, enc y] ++ cb) v fun e w' => e = .returned (.int .i64 (cf x y)) ∧ Tr v [] w' []) : CmpLays1 P g cb enc cf blk off size w := fun m os dk _ x y =>
  (hcmp _ (r.loc _ _ (fun b hb => sortWorld_at enc w blk off m dk os (r.ins _ hr b hb) (fun e => hap (e ▸ hb))) hr) x y).mono fun e w' ⟨he, ht⟩ => ⟨he, grown_of ht⟩
theorem sort_tr {α : Type} [Inhabited α] (enc : α → Value) {w : World} {blk c n : Nat} {E : TypeId} {xs junk : List Value} {d' : List α} {os : Array Obj} (hb : w.heap[blk]? = some (.cells (xs ++ junk).toArray E (0, 0))) (hl : (xs ++ junk).length = c * 1) (hd : d'.length = xs.length) :
    Tr w [row (some ⟨blk, 0, none⟩) c 1 E xs] (sortWorld enc w blk 0 n d'.toArray os) [row (some ⟨blk, 0, none⟩) c 1 E (d'.map enc)] := by
  have hlt := (Array.getElem?_eq_some_iff.1 hb).1
  have hbl : (sortWorld enc w blk 0 n d'.toArray os).heap[blk]? = some (.cells (d'.map enc ++ junk).toArray E (0, 0)) := by
    unfold sortWorld Sort.grow
    show ((Sort.putRow enc (Sort.ahead w n) blk 0 d'.toArray).heap ++ os)[blk]? = _
    rw [Array.getElem?_append_left (by rw [Sort.size_putRow]; exact hlt)]
    simp only [Sort.putRow, Sort.mapBlock, Array.getElem?_modify]
    rw [if_pos trivial]
    show (w.heap[blk]?).map (Sort.onCells (Sort.putCells enc 0 d'.toArray)) = _
    rw [hb]
    simp only [Option.map_some, Sort.onCells, Option.some.injEq, Obj.cells.injEq, and_true]
    apply Array.ext_getElem?
    intro i
    simp only [Sort.putCells, Array.getElem?_mapIdx, List.getElem?_toArray, List.size_toArray]
    by_cases hi : i < xs.length
    · rw [List.getElem?_append_left hi, List.getElem?_append_left (by simp; omega), List.getElem?_eq_getElem hi]
      simp only [Option.map_some]
      rw [if_pos ⟨by omega, by omega⟩, List.getElem?_map, List.getElem?_eq_getElem (by omega)]
      simp only [Option.map_some, Nat.sub_zero]
      rw [getElem!_pos d'.toArray i (by simp; omega)]
      simp
    · rw [List.getElem?_append_right (by omega), List.getElem?_append_right (by simp; omega)]
      simp only [List.length_map, hd]
      cases junk[i - xs.length]? with
      | none => rfl
      | some y => simp only [Option.map_some]; rw [if_neg (by omega)]
  refine ⟨rfl, rfl, rfl, ?_, ?_, fun b hb2 hn => sortWorld_at enc w blk 0 n d'.toArray os hb2 (fun e => hn _ List.mem_cons_self ⟨_, rfl, e⟩), Disj.one _, fun r hr => ?_, fun r hr b hb2 => ?_⟩
  · exact fun _ => ⟨by show w.drawn ≤ w.drawn + n; omega, fun r hr => by simp only [List.mem_singleton] at hr; subst hr; rfl⟩
  · show w.heap.size ≤ ((Sort.putRow enc (Sort.ahead w n) blk 0 d'.toArray).heap ++ os).size
    rw [Array.size_append, Sort.size_putRow]
    show w.heap.size ≤ w.heap.size + _
    omega
  · simp only [List.mem_singleton] at hr
    subst hr
    refine ⟨fun h => by simp at h, fun p hp => ?_⟩
    simp only [Option.some.injEq] at hp
    subst hp
    refine ⟨rfl, junk, hbl, ?_⟩
    rw [← hl]; simp [hd]
  · simp only [List.mem_singleton] at hr
    subst hr
    exact .inr ⟨_, List.mem_cons_self, hb2⟩
end
end Go.K

namespace Go.K
open Go
set_option linter.unusedVariables false
section
open Go.Proofs Go.Shelf Go.Sort
variable {P : Program} {ρ ρ0 : Shelf.Ren}
theorem map_one {α : Type} (e : Enc α) (enc : α → Value) (he : ∀ x, e.f x = [enc x]) : ∀ l : List α, e.fl l = l.map enc
  | [] => rfl
  | x :: l => by
    have h := map_one e enc he l
    show e.f x ++ e.fl l = _
    rw [he, h]; rfl
theorem calls_sortF {α : Type} (LF : SlLaysF.n6 P ρ) (LF0 : SlLaysF0.n6 P ρ0) (h6 : ρ.f 6 = ρ0.f 6) {enc : α → Value} (h1 : OneCell enc) {cf : α → α → Int} (hO : SWO (ltOf cf)) (hT : ∀ x y, (ltOf cf) x y = false → (ltOf cf) y x = false → x = y) {g : FuncId} {cb : Array Value}
    (eg : ∀ args w, (callFunc g args).run P w = .ok (.enter g args) w) {a : Option Addr} {c : Nat} {E : TypeId} {l : List α} {w : World} {r : Res} (hrow : (row a c 1 E (l.map enc)).ok w.heap) (hr : r.ok w.heap) (hap : ∀ b, (row a c 1 E (l.map enc)).fp b → ¬ r.fp b)
    (hcmp : ∀ v, r.ok v.heap → ∀ x y, Calls P g (#[enc x, enc y] ++ cb) v fun e w' => e = .returned (.int .i64 (cf x y)) ∧ Tr v [] w' []) (hsz : l.length < 4611686018427387904) :
    Calls P (ρ.f 6) #[.slice a l.length c, .func (.func g) #[] cb] w fun e w' => e = .returned (.tuple #[]) ∧ Tr w [row a c 1 E (l.map enc)] w' [row a c 1 E ((l.mergeSort fun x y => !(ltOf cf y x)).map enc)] := by
  cases l with
  | nil =>
    have h := AnyF.slices_SortFunc_none LF0 a c (.func (.func g) #[] cb) w
    rw [← h6] at h
    refine Calls.mono h fun e w' ⟨he, hw⟩ => ⟨he, ?_⟩
    subst hw
    rw [List.mergeSort_nil]
    exact Tr.start (Disj.one _) (fun r hr2 => by simp only [List.mem_singleton] at hr2; subst hr2; exact hrow)
  | cons x l =>
    cases a with
    | none => exact absurd (hrow.1 rfl).1 (by simp)
    | some p =>
      obtain ⟨hp, junk, hb, hlen⟩ := hrow.2 p rfl
      have : Inhabited α := ⟨x⟩
      have hblk : p.block < w.heap.size := (Array.getElem?_eq_some_iff.1 hb).1
      have hH : Sort.Holds enc w p.block 0 (x :: l).toArray := fun j hj => by
        have hj' : j < (x :: l).length := by simpa using hj
        refine ⟨?_, ?_⟩
        · rw [Nat.zero_add, cell_of_block hb, List.getElem?_append_left (by rw [List.length_map]; exact hj'), List.getElem?_map, List.getElem?_eq_getElem hj', getElem!_pos _ j hj]
          rfl
        · simp [World.frozen?, hb]
      have hc : CmpLays1 P g cb enc cf p.block 0 (x :: l).toArray.size w := sort_cmp hr (hap _ ⟨p, rfl, rfl⟩) hcmp
      have h := Any.slices_SortFunc_total LF enc h1 cf hO g cb p.block 0 c (x :: l).toArray w eg hc hH hblk (by simpa using hsz) hT
      have e1 : (x :: l).toArray.size = (x :: l).length := by simp
      rw [e1] at h
      rw [hp]
      refine Calls.mono h fun e w' ⟨he, n, os, hw⟩ => ⟨he, ?_⟩
      subst hw
      exact sort_tr enc hb hlen (by rw [List.length_mergeSort, List.length_map])
theorem calls_sort (LS : SlLaysM.n5 P ρ) {a : Option Addr} {c : Nat} {E : TypeId} {l : List Int} {w : World} (hrow : (row a c 1 E (l.map (Value.int .i64))).ok w.heap) (hsz : l.length < 4611686018427387904) :
    Calls P (ρ.f 5) #[.slice a l.length c] w fun e w' => e = .returned (.tuple #[]) ∧ Tr w [row a c 1 E (l.map (Value.int .i64))] w' [row a c 1 E ((l.mergeSort fun x y => decide (x ≤ y)).map (Value.int .i64))] := by
  cases l with
  | nil =>
    have h := AnyM.slices_Sort_int_none LS a c w
    refine Calls.mono h fun e w' ⟨he, hw⟩ => ⟨he, ?_⟩
    subst hw
    rw [List.mergeSort_nil]
    exact Tr.start (Disj.one _) (fun r hr2 => by simp only [List.mem_singleton] at hr2; subst hr2; exact hrow)
  | cons x l =>
    cases a with
    | none => exact absurd (hrow.1 rfl).1 (by simp)
    | some p =>
      obtain ⟨hp, junk, hb, hlen⟩ := hrow.2 p rfl
      have hblk : p.block < w.heap.size := (Array.getElem?_eq_some_iff.1 hb).1
      have hH : Sort.Holds (Value.int .i64) w p.block 0 (x :: l).toArray := fun j hj => by
        have hj' : j < (x :: l).length := by simpa using hj
        refine ⟨?_, ?_⟩
        · rw [Nat.zero_add, cell_of_block hb, List.getElem?_append_left (by rw [List.length_map]; exact hj'), List.getElem?_map, List.getElem?_eq_getElem hj', getElem!_pos _ j hj]
          rfl
        · simp [World.frozen?, hb]
      have h := AnyM.slices_Sort_int LS p.block 0 c (x :: l) w hH hblk hsz
      rw [hp]
      refine Calls.mono h fun e w' ⟨he, n, os, hw⟩ => ⟨he, ?_⟩
      subst hw
      exact sort_tr (Value.int .i64) (n := n) hb hlen (by rw [List.length_mergeSort, List.length_map])
end
end Go.K
