/- What the functions of the document's device give: flushes, what is loose, what turns. -/
import Derived.Test.YtdbedajaapamhaaGreatSuRS
namespace Go.Proofs.YtdbedajaapamhaaGreat
open Go Go.K
set_option linter.unusedVariables false
set_option linter.unusedSimpArgs false
attribute [local irreducible] Calls Ev GL GC GQ GR Code.wp
def DS.flux (s : DS) (x : Nat) : DS := { s with kept := s.kept.mapIdx fun i y => if i < x then (s.loose i).getD y else y, loose := fun j => if j < x then none else s.loose j }
theorem DS.flux_length (s : DS) (x : Nat) : (s.flux x).kept.length = s.kept.length := by unfold DS.flux; simp
theorem DS.flux_get (s : DS) (x i : Nat) : (s.flux x).kept[i]? = (s.kept[i]?).map fun y => if i < x then (s.loose i).getD y else y := by unfold DS.flux; rw [List.getElem?_mapIdx]
theorem DS.flux_zero (s : DS) : s.flux 0 = s := by
  have h1 : (s.flux 0).kept = s.kept := List.ext_getElem? fun i => by rw [DS.flux_get]; simp
  have h2 : (s.flux 0).loose = s.loose := by funext j; show (if j < 0 then none else s.loose j) = _; rw [if_neg (by omega)]
  have h3 : s.flux 0 = ⟨(s.flux 0).kept, (s.flux 0).loose, s.down, s.done, s.cut⟩ := rfl
  rw [h3, h1, h2]
theorem DS.flux_n {s : DS} {x : Nat} (h : (s.loose x).isSome = false) : s.flux (x + 1) = s.flux x := by
  have hn : s.loose x = none := by simpa using h
  have h1 : (s.flux (x + 1)).kept = (s.flux x).kept := List.ext_getElem? fun i => by
    rw [DS.flux_get, DS.flux_get]
    congr 1
    funext y
    by_cases hi : i = x
    · subst hi; rw [if_pos (by omega), if_neg (by omega), hn]; rfl
    · by_cases h2 : i < x
      · rw [if_pos (by omega), if_pos h2]
      · rw [if_neg (by omega), if_neg h2]
  have h2 : (s.flux (x + 1)).loose = (s.flux x).loose := by
    funext j
    show (if j < x + 1 then none else s.loose j) = (if j < x then none else s.loose j)
    by_cases hi : j = x
    · subst hi; rw [if_pos (by omega), if_neg (by omega), hn]
    · by_cases h2 : j < x
      · rw [if_pos (by omega), if_pos h2]
      · rw [if_neg (by omega), if_neg h2]
  have h3 : ∀ z, s.flux z = ⟨(s.flux z).kept, (s.flux z).loose, s.down, s.done, s.cut⟩ := fun z => rfl
  rw [h3 (x + 1), h3 x, h1, h2]
theorem ksv_flux {s : DS} {x o : Nat} {y : Sec} (h : s.loose x = some y) (hx : x < s.kept.length) (ho : o = x) : spliceO (ksv (s.flux x).kept) o [K.str y.1] = some (ksv (s.flux (x + 1)).kept) := by
  have := set_map (fun y : Sec => K.str y.1) (l := (s.flux x).kept) (x := y) (by rw [DS.flux_length]; exact hx) ho
  unfold ksv
  rw [this]
  congr 2
  refine List.ext_getElem? fun i => ?_
  by_cases hi : i = x
  · subst hi
    rw [List.getElem?_set_self (by rw [DS.flux_length]; exact hx), DS.flux_get, List.getElem?_eq_getElem hx]
    simp [h]
  · rw [List.getElem?_set_ne (by omega), DS.flux_get, DS.flux_get]
    congr 1
    funext z
    by_cases h2 : i < x
    · rw [if_pos h2, if_pos (by omega)]
    · rw [if_neg h2, if_neg (by omega)]
theorem lov_flux_get {s : DS} {x o : Nat} (hx : x < s.kept.length) (ho : o = x) : (lov (s.flux x))[o]? = some (.bool (s.loose x).isSome) := by
  rw [lov_get (s := s.flux x) (by rw [DS.flux_length]; exact hx) ho]
  show some (Value.bool (if x < x then none else s.loose x).isSome) = _
  rw [if_neg (by omega)]
theorem lov_flux {s : DS} {x o : Nat} (hx : x < s.kept.length) (ho : o = x) : spliceO (lov (s.flux x)) o [.bool false] = some (lov (s.flux (x + 1))) := by
  refine lov_set (by rw [DS.flux_length]; exact hx) ho (by rw [DS.flux_length, DS.flux_length]) fun j => ?_
  show (if j < x + 1 then none else s.loose j).isSome = if j = x then false else (if j < x then none else s.loose j).isSome
  by_cases hj : j = x
  · rw [if_pos hj, if_pos (by omega)]; rfl
  · rw [if_neg hj]
    by_cases h2 : j < x
    · rw [if_pos h2, if_pos (by omega)]
    · rw [if_neg h2, if_neg (by omega)]
theorem errE_cases (b : Bool) : (b = false ∧ errE b = 71) ∨ (b = true ∧ errE b = 0) := by cases b <;> simp [errE]
theorem rf_end {g : RG} {r : Nat} (hk : g.Ok) (ha : g.s.able = true) : ∃ x : RG, x.Ok ∧ x.s = g.s.flush.1 ∧ RefR r x = all [cl r 63 g.thing.cells, cl g.kb 9 (ksv (g.s.thing.flux g.s.kept.length).kept), cl g.wb 9 (wsv g.W), cl g.lb 4 (lov (g.s.thing.flux g.s.kept.length))] := by
  have ht := RG.thing_ok hk
  have et : g.thing.s = g.s.thing := rfl
  have hl : g.s.thing.kept.length = g.s.kept.length := by rw [DS.thing_kept]
  have hloose : ∀ j, ¬ j < g.s.kept.length → g.s.thing.loose j = none := fun j hj => by
    rw [DS.thing_loose]
    cases h : g.s.loose j with
    | none => rfl
    | some y => exact absurd (hk.w j y h).1 hj
  have e : g.s.thing.flux g.s.kept.length = g.s.thing.flushed := by
    have h1 : (g.s.thing.flux g.s.kept.length).kept = g.s.thing.flushed.kept := List.ext_getElem? fun i => by
      rw [DS.flux_get]
      unfold DS.flushed
      rw [List.getElem?_mapIdx]
      by_cases hi : i < g.s.kept.length
      · simp only [hi, if_true]
      · rw [List.getElem?_eq_none (by omega)]; rfl
    have h2 : (g.s.thing.flux g.s.kept.length).loose = g.s.thing.flushed.loose := by
      funext j
      show (if j < g.s.kept.length then none else g.s.thing.loose j) = none
      by_cases hj : j < g.s.kept.length
      · rw [if_pos hj]
      · rw [if_neg hj]; exact hloose j hj
    have h3 : g.s.thing.flux g.s.kept.length = ⟨(g.s.thing.flux g.s.kept.length).kept, (g.s.thing.flux g.s.kept.length).loose, g.s.thing.down, g.s.thing.done, g.s.thing.cut⟩ := rfl
    rw [h3, h1, h2]; rfl
  rw [e]
  have ef : g.s.flush.1 = g.s.thing.flushed := by rw [DS.flush_y ha]
  refine ⟨{ g.thing with s := g.s.flush.1 }, ⟨?_, ?_, ?_, ?_, ?_, ?_⟩, rfl, ?_⟩
  · show g.W.length = g.s.flush.1.kept.length; rw [ef, DS.flushed_length, hl]; exact hk.wl
  · intro i y hy
    have hy' : g.s.flush.1.loose i = some y := hy
    rw [ef] at hy'; cases hy'
  · show 1 ≤ g.s.flush.1.kept.length; rw [ef, DS.flushed_length, hl]; exact hk.n1
  · show g.s.flush.1.kept.length ≤ 4096; rw [ef, DS.flushed_length, hl]; exact hk.n2
  · show I64 g.s.flush.1.cut; rw [ef]; exact ht.cut
  · show 0 ≤ g.s.flush.1.cut → _; rw [ef]; exact ht.to
  · unfold RefR RG.L RG.cells
    simp only [ef, DS.flushed_length, et]
    rfl
/-! The sectors that are loose. -/
def listTo (s : DS) (x : Nat) : List Nat := (List.range x).filter fun i => (s.loose i).isSome
theorem listTo_len (s : DS) (x : Nat) : (listTo s x).length ≤ x := by
  unfold listTo
  exact Nat.le_trans (List.length_filter_le _ _) (by simp)
theorem listTo_cases (s : DS) (x : Nat) : ((s.loose x).isSome = false ∧ (listTo s (x + 1)).length = (listTo s x).length ∧ ints (listTo s (x + 1)) = ints (listTo s x)) ∨ ((s.loose x).isSome = true ∧ (listTo s (x + 1)).length = (listTo s x).length + 1 ∧ ints (listTo s (x + 1)) = ints (listTo s x) ++ [.int .i64 (x : Int)]) := by
  unfold listTo
  rw [List.range_succ, List.filter_append]
  cases h : (s.loose x).isSome with
  | false => left; simp [h]
  | true => right; simp [h, ints]
/-! What turns in a string. -/
theorem flipS_even {x : Sec} {a w : Nat} (h : w % 2 = 0) : flipS x a w = x := by
  unfold flipS setB
  apply Subtype.ext
  simp only [h, Nat.zero_mul, Nat.zero_mod]
  have hx : ∀ b : UInt8, xorB b.toNat 0 = b := fun b => by
    unfold xorB
    have : (BitVec.ofInt 8 (b.toNat : Int) ^^^ BitVec.ofInt 8 ((0 : Nat) : Int)).toNat = b.toNat := by
      have := b.toNat_lt
      simp [BitVec.toNat_ofInt]
    rw [this]
    exact UInt8.ofNat_toNat
  rw [hx]
  refine List.ext_getElem? fun j => ?_
  by_cases hj : j = a / 8
  · subst hj
    by_cases hl : a / 8 < x.1.length
    · rw [List.getElem?_set_self hl, List.getElem?_eq_getElem hl]; rfl
    · rw [List.getElem?_eq_none (by simp; omega), List.getElem?_eq_none (by omega)]
  · rw [List.getElem?_set_ne (by omega)]
theorem turnS_step {x : Sec} {a w : Nat} (h : a < 512) : turnS x a w = turnS (flipS x a w) (a + 1) (w / 2) := by
  by_cases hw : w = 0
  · subst hw
    rw [turnS_end (by omega), flipS_even rfl, turnS_end (by omega)]
  · exact turnS_go ⟨hw, h⟩
theorem flip_bytes {y : Sec} {a w : Nat} {b : UInt8} (hb : y.1[a / 8]? = some b) (hw : w % 2 = 1) : (flipS y a w).1 = y.1.set (a / 8) (xorB b.toNat (1 * 2 ^ (a % 8) % 256)) := by
  unfold flipS setB
  simp only [hw, hb, Option.getD_some]
theorem shl_one {a k : Nat} (h : a = k) : IntKind.u8.wrap ((1 : Int) * 2 ^ (min ((a : Int) % 8).toNat IntKind.u8.bits)) = ((1 * 2 ^ (k % 8) % 256 : Nat) : Int) := by
  subst h
  exact shl_eq (b := 1) (by omega)
def shn (w k : Nat) : Nat := w / 2 ^ k
theorem shr_k {w k : Nat} (hk : k ≤ 32) : ((w : Int)).fdiv (2 ^ (min (k : Int).toNat IntKind.u32.bits)) = ((shn w k : Nat) : Int) := by
  have e : min (k : Int).toNat IntKind.u32.bits = k := by simp only [IntKind.bits]; omega
  have h2 : ((2 : Int) ^ k) = ((2 ^ k : Nat) : Int) := by simp
  rw [e, h2, Int.fdiv_eq_ediv_of_nonneg _ (Int.natCast_nonneg _)]
  rfl
theorem shn_next (w k : Nat) : shn w k / 2 = shn w (k + 1) := by unfold shn; rw [Nat.div_div_eq_div_mul, Nat.pow_succ]
theorem shn_le (w k : Nat) : shn w k ≤ w := Nat.div_le_self _ _
theorem shn_32 {w : Nat} (h : w < 4294967296) : shn w 32 = 0 := Nat.div_eq_of_lt (by simpa using h)
theorem shn_0 (w : Nat) : shn w 0 = w := by simp [shn]
attribute [local irreducible] flipS turnS DS.flux shn

/- (*turntable/turntableref07.Dev).Flush -/
set_option maxHeartbeats 1000000 in
set_option maxRecDepth 100000 in
theorem rflush_con {r : Nat} {g : RG} (hk : g.Ok) {w : World} (ho : (RefR r g).ok w.heap) :
    Calls Tryz.prog 33 #[.pointer (some ⟨r, 0, none⟩)] w fun e w' => ∃ x : RG, e = .returned (.int .i64 g.s.flush.2) ∧ x.Ok ∧ x.s = g.s.flush.1 ∧ Tr w [RefR r g] w' [RefR r x] := by
  have hwl := hk.wl
  have hkt := RG.thing_ok hk
  have htl : g.s.thing.kept.length = g.s.kept.length := by rw [DS.thing_kept]
  have htn : g.thing.s.kept.length = g.s.kept.length := htl
  have hn2 := hk.n2
  refine K.enter (args := [_]) Tryz.func33 rfl Tryz.ntmps33 rfl (Disj.one _) (by intro x hx; simp only [List.mem_singleton] at hx; subst hx; exact ho) ?_
  refine K.GC.seq ?_
  refine K.GC.region ?_
  refine K.GL.det (K.e_assign rfl) rfl ?_
  refine K.GL.nil ?_
  refine K.GQ.go ?_
  refine K.GC.seq ?_
  refine K.GC.region ?_
  refine K.GL.det (K.e_move rfl) rfl ?_
  refine gl_rthing Tryz.call40 rfl hk rfl ?_
  rcases errE_cases g.s.able with ⟨hab, he⟩ | ⟨hab, he⟩ <;> rw [he]
  all_goals
    refine K.GL.det (K.e_assign rfl) rfl ?_
    refine K.GL.nil ?_
    refine K.GQ.go ?_
    refine K.GC.seq ?_
    refine K.GC.seq ?_
    refine K.GC.opened1 ?_
    refine K.GC.region ?_
    refine K.GL.det (K.e_assign rfl) rfl ?_
    refine K.GL.nil ?_
    refine K.GQ.go ?_
    refine K.GC.block ?_
    refine K.GC.loopk (α := Nat) [0, 2, 3, 46] rfl (fun x => [(4, .int .i64 (x : Int))]) (fun x => [cl r 63 g.thing.cells, cl g.thing.kb 9 (ksv (g.s.thing.flux x).kept), cl g.thing.wb 9 (wsv g.W), cl g.thing.lb 4 (lov (g.s.thing.flux x))]) (fun x => x ≤ g.s.kept.length ∧ (g.s.able = false → x = 0)) (fun x => (g.s.kept.length - x)) 0 ⟨by omega, fun _ => rfl⟩ (by (repeat refine ⟨rfl, ?_⟩); exact trivial) (by rw [DS.flux_zero]; exact Sub.refl _) (fun x hI => ?_)
    refine K.GC.seq ?_
    refine K.GC.seq ?_
    refine K.GC.region ?_
    refine K.GL.det (K.e_move rfl) rfl ?_
    refine K.GL.det (K.e_move rfl) rfl ?_
    refine K.GL.det (K.e_nilCheck rfl) rfl ?_
    refine K.GL.det (K.e_fieldAddr fo63_0 rfl) rfl ?_
    first | refine K.GL.det (K.e_load Tryz.isAgg61 rfl rfl) rfl ?_ | refine K.GL.det (K.e_load0 Tryz.isAgg61 rfl (by assumption)) rfl ?_
    refine K.GL.det (K.e_len Tryz.underlying61 rfl) rfl ?_
    first | refine K.GL.det ((K.e_lt rfl rfl).yes (by first | omega | assumption | decide +kernel)) rfl ?_ | refine K.GL.det ((K.e_lt rfl rfl).no (by first | omega | assumption | decide +kernel)) rfl ?_ | refine K.GL.det (K.e_lt rfl rfl) rfl ?_
    refine K.GL.det (K.e_move rfl) rfl ?_
    first | refine K.GL.splitB 14 rfl (fun h1 => ?_) (fun h1 => ?_) | skip
    all_goals first | exact absurd h1 (by decide) | replace h1 := of_decide_eq_true h1 | replace h1 := of_decide_eq_false h1 | skip
    all_goals
      first | (refine K.GL.want 14 rfl rfl rfl ?_; first | refine K.GL.det (K.e_move rfl) rfl ?_) | refine K.GL.skip 14 rfl rfl rfl rfl ?_ | refine K.GL.skipU 14 rfl rfl rfl rfl ?_
      first | (refine K.GL.want 14 rfl rfl rfl ?_; first | refine K.GL.det ((K.e_eq rfl rfl).yes (by first | omega | assumption | decide +kernel)) rfl ?_ | refine K.GL.det ((K.e_eq rfl rfl).no (by first | omega | assumption | decide +kernel)) rfl ?_ | refine K.GL.det (K.e_eq rfl rfl) rfl ?_) | refine K.GL.skip 14 rfl rfl rfl rfl ?_ | refine K.GL.skipU 14 rfl rfl rfl rfl ?_
      first | refine K.GL.det (K.e_pick_t rfl rfl) rfl ?_ | refine K.GL.det (K.e_pick_f rfl rfl) rfl ?_
      refine K.GL.nil ?_
      refine K.GQ.go ?_
      refine K.GC.condB rfl (fun h2 => ?_) (fun h2 => ?_)
      · first
        | exact absurd h2 (by decide)
        | try replace h2 := of_decide_eq_true h2
          refine K.GC.skip ?_
          refine K.GQ.go ?_
          refine K.GC.seq ?_
          refine K.GC.block ?_
          refine K.GC.seq ?_
          refine K.GC.region ?_
          refine K.GL.det (K.e_move rfl) rfl ?_
          refine K.GL.det (K.e_nilCheck rfl) rfl ?_
          refine K.GL.det (K.e_fieldAddr fo63_2 rfl) rfl ?_
          first | refine K.GL.det (K.e_load Tryz.isAgg33 rfl rfl) rfl ?_ | refine K.GL.det (K.e_load0 Tryz.isAgg33 rfl (by assumption)) rfl ?_
          refine K.GL.det (K.e_move rfl) rfl ?_
          refine K.GL.det (K.e_indexAddr sl33 rfl rfl (by omega) (by omega)) rfl ?_
          refine K.GL.det (K.e_load Tryz.isAgg4 rfl (lov_flux_get (by omega) (by omega))) rfl ?_
          refine K.GL.nil ?_
          refine K.GQ.go ?_
          refine K.GC.condB rfl (fun h3 => ?_) (fun h3 => ?_)
          · first
            | exact absurd h3 (by decide)
            | try replace h3 := of_decide_eq_true h3
              refine K.GC.seq ?_
              obtain ⟨y, hy⟩ := Option.isSome_iff_exists.1 (show (g.s.thing.loose x).isSome = true by assumption)
              refine K.GC.drawn 13 [[], [0], [0, 1], [0, 1, 2], [], [], [5], [5, 6], [5, 6, 7], [], [5, 6, 7, 8, 9], [5, 6, 7, 8, 9, 10], [0, 1, 2, 3, 4, 5, 6, 7, 8, 9, 10, 11], [0, 1, 2, 3, 4, 5, 6, 7, 8, 9, 10, 11, 12]] [[], [0], [1], [2], [], [], [5], [6], [7], [], [8, 9], [10], [3, 4]] [0, 2, 3, 4, 7, 8, 9, 10, 11, 12, 13, 14, 15, 16, 17, 18, 19, 20, 21, 22, 23, 24, 25, 26, 40, 41, 42, 43, 44, 45, 46] (by kernel_rfl) (by kernel_rfl) rfl ?_
              refine K.DW.det rfl (fun vs => K.e_move rfl) ?_
              refine K.DW.det rfl (fun vs => K.e_nilCheck rfl) ?_
              refine K.DW.det rfl (fun vs => K.e_fieldAddr fo63_0 rfl) ?_
              first | refine K.DW.det rfl (fun vs => K.e_load Tryz.isAgg61 rfl rfl) ?_ | refine K.DW.det rfl (fun vs => K.e_load0 Tryz.isAgg61 rfl (by assumption)) ?_
              refine K.DW.det rfl (fun vs => K.e_move rfl) ?_
              refine K.DW.det rfl (fun vs => K.e_move rfl) ?_
              refine K.DW.det rfl (fun vs => K.e_nilCheck rfl) ?_
              refine K.DW.det rfl (fun vs => K.e_fieldAddr fo63_1 rfl) ?_
              first | refine K.DW.det rfl (fun vs => K.e_load Tryz.isAgg61 rfl rfl) ?_ | refine K.DW.det rfl (fun vs => K.e_load0 Tryz.isAgg61 rfl (by assumption)) ?_
              refine K.DW.det rfl (fun vs => K.e_move rfl) ?_
              refine K.DW.det rfl (fun vs => K.e_indexAddr sl61 rfl rfl (by omega) (by omega)) ?_
              refine K.DW.det rfl (fun vs => K.e_load Tryz.isAgg9 rfl (wsv_get (hkt.w x y hy).2 (by omega))) ?_
              refine K.DW.det rfl (fun vs => K.e_indexAddr sl61 rfl rfl (by omega) (by omega)) ?_
              refine K.DW.fin0 rfl (fun vs => ?_)
              refine K.GL.keep [0, 2, 3, 4, 7, 8, 9, 10, 11, 12, 13, 14, 15, 16, 17, 18, 19, 20, 21, 22, 23, 24, 25, 26, 27, 28, 29, 30, 31, 32, 33, 34, 35, 36, 37, 38, 39, 40, 41, 42, 43, 44, 45, 46] rfl ?_
              clear vs
              refine K.GL.storeP (cs' := ksv (g.s.thing.flux (x + 1)).kept) rfl rfl rfl Tryz.sizeOf9 rfl rfl (ksv_flux hy (by omega) (by omega)) ?_
              refine K.GL.nil ?_
              refine K.GQ.go ?_
              refine K.GC.region ?_
              refine K.GL.det (K.e_move rfl) rfl ?_
              refine K.GL.det (K.e_nilCheck rfl) rfl ?_
              refine K.GL.det (K.e_fieldAddr fo63_2 rfl) rfl ?_
              first | refine K.GL.det (K.e_load Tryz.isAgg33 rfl rfl) rfl ?_ | refine K.GL.det (K.e_load0 Tryz.isAgg33 rfl (by assumption)) rfl ?_
              refine K.GL.det (K.e_move rfl) rfl ?_
              refine K.GL.det (K.e_indexAddr sl33 rfl rfl (by omega) (by omega)) rfl ?_
              refine K.GL.storeP (cs' := lov (g.s.thing.flux (x + 1))) rfl rfl rfl Tryz.sizeOf4 rfl rfl (lov_flux (by omega) (by omega)) ?_
              refine K.GL.nil ?_
              refine K.GQ.block_normal ?_
              refine K.GQ.go ?_
              refine K.GC.region ?_
              refine K.GL.det (K.e_move rfl) rfl ?_
              first | refine K.GL.det (K.e_add rfl rfl ⟨by omega, by omega⟩) rfl ?_ | refine K.GL.det (K.e_addw rfl rfl) rfl ?_
              refine K.GL.det (K.e_assign rfl) rfl ?_
              refine K.GL.nil ?_
              exact K.GQ.round (x + 1) ⟨by omega, fun h => absurd (hab.symm.trans h) (by decide)⟩ (by omega) (by (repeat refine ⟨rfl, ?_⟩); exact trivial) (by first | exact Sub.refl _ | (rw [DS.flux_n (by assumption)]; exact Sub.refl _))
          · first
            | exact absurd h3 (by decide)
            | try replace h3 := of_decide_eq_false h3
              refine K.GC.skip ?_
              refine K.GQ.block_normal ?_
              refine K.GQ.go ?_
              refine K.GC.region ?_
              refine K.GL.det (K.e_move rfl) rfl ?_
              first | refine K.GL.det (K.e_add rfl rfl ⟨by omega, by omega⟩) rfl ?_ | refine K.GL.det (K.e_addw rfl rfl) rfl ?_
              refine K.GL.det (K.e_assign rfl) rfl ?_
              refine K.GL.nil ?_
              exact K.GQ.round (x + 1) ⟨by omega, fun h => absurd (hab.symm.trans h) (by decide)⟩ (by omega) (by (repeat refine ⟨rfl, ?_⟩); exact trivial) (by first | exact Sub.refl _ | (rw [DS.flux_n (by assumption)]; exact Sub.refl _))
      · first
        | exact absurd h2 (by decide)
        | try replace h2 := of_decide_eq_false h2
          refine K.GC.exit ?_
          refine K.GQ.then_exit ?_
          refine K.GQ.then_exit ?_
          refine K.GQ.block_hit ?_
          refine K.GQ.go ?_
          refine K.GC.seq ?_
          refine K.GC.region ?_
          refine K.GL.det (K.e_move rfl) rfl ?_
          refine K.GL.det (K.e_assign rfl) rfl ?_
          refine K.GL.nil ?_
          refine K.GQ.go ?_
          refine K.GC.ret ?_
          refine K.GQ.ret1 Tryz.results33 rfl (fun w hT => ?_)
          first
            | (obtain rfl : x = 0 := hI.2 hab
               rw [DS.flux_zero] at hT
               exact ⟨g.thing, by rw [DS.flush_n hab], hkt, by rw [DS.flush_n hab]; rfl, hT.one⟩)
            | (obtain rfl : x = g.s.kept.length := by omega
               obtain ⟨y, hy1, hy2, hy3⟩ := rf_end (r := r) hk hab
               exact ⟨y, by rw [DS.flush_y hab], hy1, hy2, by rw [hy3]; exact hT.one⟩)
/- (*turntable/turntableref07.Dev).Loose -/
set_option maxHeartbeats 1000000 in
set_option maxRecDepth 100000 in
theorem rloose_con {r : Nat} {g : RG} (hk : g.Ok) {w : World} (ho : (RefR r g).ok w.heap) :
    Calls Tryz.prog 23 #[.pointer (some ⟨r, 0, none⟩)] w fun e w' => ∃ a c, e = .returned (.slice a g.s.list.length c) ∧ Tr w [] w' [row a c 1 3 (ints g.s.list)] := by
  have hn2 := hk.n2
  refine K.enter (args := [_]) Tryz.func23 rfl Tryz.ntmps23 rfl (Disj.one _) (by intro x hx; simp only [List.mem_singleton] at hx; subst hx; exact ho) ?_
  refine K.GC.seq ?_
  refine K.GC.region ?_
  refine K.GL.det (K.e_assign rfl) rfl ?_
  refine K.GL.nil ?_
  refine K.GQ.go ?_
  refine K.GC.seq ?_
  refine K.GC.region ?_
  refine K.GL.det (K.e_assign rfl) rfl ?_
  refine K.GL.nil ?_
  refine K.GQ.go ?_
  refine K.GC.seq ?_
  refine K.GC.seq ?_
  refine K.GC.opened1 ?_
  refine K.GC.row_nil 1 3 ?_
  refine K.GC.region ?_
  refine K.GL.det (K.e_assign rfl) rfl ?_
  refine K.GL.nil ?_
  refine K.GQ.go ?_
  refine K.GC.block ?_
  refine K.GC.loopk (α := Nat × Option Addr × Nat) [0, 2, 25] rfl (fun x => [(3, .slice x.2.1 (listTo g.s x.1).length x.2.2), (4, .int .i64 (x.1 : Int))]) (fun x => (row x.2.1 x.2.2 1 3 (ints (listTo g.s x.1)) :: g.L r)) (fun x => x.1 ≤ g.s.kept.length) (fun x => (g.s.kept.length - x.1)) (0, none, 0) (Nat.zero_le _) (by (repeat refine ⟨rfl, ?_⟩); exact trivial) (K.Sub.refl _) (fun x hI => ?_)
  obtain ⟨y, a, c⟩ := x
  simp only at hI ⊢
  refine K.GC.seq ?_
  refine K.GC.seq ?_
  refine K.GC.region ?_
  refine K.GL.det (K.e_move rfl) rfl ?_
  refine K.GL.det (K.e_move rfl) rfl ?_
  refine K.GL.det (K.e_nilCheck rfl) rfl ?_
  refine K.GL.det (K.e_fieldAddr fo63_2 rfl) rfl ?_
  first | refine K.GL.det (K.e_load Tryz.isAgg33 rfl rfl) rfl ?_ | refine K.GL.det (K.e_load0 Tryz.isAgg33 rfl (by assumption)) rfl ?_
  refine K.GL.det (K.e_len Tryz.underlying33 rfl) rfl ?_
  first | refine K.GL.det ((K.e_lt rfl rfl).yes (by first | omega | assumption | decide +kernel)) rfl ?_ | refine K.GL.det ((K.e_lt rfl rfl).no (by first | omega | assumption | decide +kernel)) rfl ?_ | refine K.GL.det (K.e_lt rfl rfl) rfl ?_
  refine K.GL.nil ?_
  refine K.GQ.go ?_
  refine K.GC.condB rfl (fun h1 => ?_) (fun h1 => ?_)
  · first
    | exact absurd h1 (by decide)
    | try replace h1 := of_decide_eq_true h1
      refine K.GC.skip ?_
      refine K.GQ.go ?_
      refine K.GC.seq ?_
      refine K.GC.block ?_
      refine K.GC.seq ?_
      have hll := listTo_len g.s y
      rcases listTo_cases g.s y with ⟨hlo, hl2, hl3⟩ | ⟨hlo, hl2, hl3⟩
      all_goals
        refine K.GC.region ?_
        refine K.GL.det (K.e_move rfl) rfl ?_
        refine K.GL.det (K.e_nilCheck rfl) rfl ?_
        refine K.GL.det (K.e_fieldAddr fo63_2 rfl) rfl ?_
        first | refine K.GL.det (K.e_load Tryz.isAgg33 rfl rfl) rfl ?_ | refine K.GL.det (K.e_load0 Tryz.isAgg33 rfl (by assumption)) rfl ?_
        refine K.GL.det (K.e_move rfl) rfl ?_
        refine K.GL.det (K.e_indexAddr sl33 rfl rfl (by omega) (by omega)) rfl ?_
        refine K.GL.det ((K.e_load Tryz.isAgg4 rfl (lov_get (by omega) (by omega))).cast_bool hlo) rfl ?_
        refine K.GL.nil ?_
        refine K.GQ.go ?_
        refine K.GC.condB rfl (fun h2 => ?_) (fun h2 => ?_)
        · first
          | exact absurd h2 (by decide)
          | try replace h2 := of_decide_eq_true h2
            refine K.GC.region ?_
            refine K.GL.det (K.e_move rfl) rfl ?_
            refine K.GL.det (K.e_move rfl) rfl ?_
            refine K.GL.buildSlice mk51 rfl rfl rfl (fun b23 => ?_)
            refine K.GL.append mk51 rfl rfl (by simp [ints]) rfl (fun w hT => Sl.of_block (hT.ok _ List.mem_cons_self) rfl) (by omega) (oneCells_spec rfl) (by omega) (by omega) _ rfl (fun a24 c24 => ?_)
            refine K.GL.det (K.e_assign rfl) rfl ?_
            refine K.GL.nil ?_
            refine K.GQ.block_normal ?_
            refine K.GQ.go ?_
            refine K.GC.region ?_
            refine K.GL.det (K.e_move rfl) rfl ?_
            first | refine K.GL.det (K.e_add rfl rfl ⟨by omega, by omega⟩) rfl ?_ | refine K.GL.det (K.e_addw rfl rfl) rfl ?_
            refine K.GL.det (K.e_assign rfl) rfl ?_
            refine K.GL.nil ?_
            exact K.GQ.round (y + 1, _, _) (by simp only; omega) (by simp only; omega) (by simp only [hl2]; (repeat refine ⟨rfl, ?_⟩); exact trivial) (by simp only [hl3]; first | exact Sub.refl _ | exact K.Sub.tail _ _)
        · first
          | exact absurd h2 (by decide)
          | try replace h2 := of_decide_eq_false h2
            refine K.GC.skip ?_
            refine K.GQ.block_normal ?_
            refine K.GQ.go ?_
            refine K.GC.region ?_
            refine K.GL.det (K.e_move rfl) rfl ?_
            first | refine K.GL.det (K.e_add rfl rfl ⟨by omega, by omega⟩) rfl ?_ | refine K.GL.det (K.e_addw rfl rfl) rfl ?_
            refine K.GL.det (K.e_assign rfl) rfl ?_
            refine K.GL.nil ?_
            exact K.GQ.round (y + 1, _, _) (by simp only; omega) (by simp only; omega) (by simp only [hl2]; (repeat refine ⟨rfl, ?_⟩); exact trivial) (by simp only [hl3]; first | exact Sub.refl _ | exact K.Sub.tail _ _)
  · first
    | exact absurd h1 (by decide)
    | try replace h1 := of_decide_eq_false h1
      refine K.GC.exit ?_
      refine K.GQ.then_exit ?_
      refine K.GQ.then_exit ?_
      refine K.GQ.block_hit ?_
      refine K.GQ.go ?_
      refine K.GC.seq ?_
      refine K.GC.region ?_
      refine K.GL.det (K.e_move rfl) rfl ?_
      refine K.GL.det (K.e_assign rfl) rfl ?_
      refine K.GL.nil ?_
      refine K.GQ.go ?_
      refine K.GC.ret ?_
      refine K.GQ.ret1 Tryz.results23 rfl (fun w hT => ?_)
      obtain rfl : y = g.s.kept.length := by omega
      have h2 := hT.sub (Sub.rot _ _)
      exact ⟨_, _, rfl, h2.closed.calmed ho (RefR.precise r g)⟩
/- turntable/turntableref07.turned -/
set_option maxHeartbeats 1000000 in
set_option maxRecDepth 100000 in
theorem turned_con {x0 : Sec} {a0 w0 : Nat} (ha : a0 < 512) (hw : w0 < 4294967296) {w : World} :
    Calls Tryz.prog 36 #[K.str x0.1, .int .i64 (a0 : Int), .int .u32 (w0 : Int)] w fun e w' => e = .returned (K.str (turnS x0 a0 w0).1) ∧ Tr w [] w' [] := by
  refine K.enter0 (args := [_, _, _]) Tryz.func36 rfl Tryz.ntmps36 rfl ?_
  refine K.GC.seq ?_
  refine K.GC.region ?_
  refine K.GL.det (K.e_assign rfl) rfl ?_
  refine K.GL.nil ?_
  refine K.GQ.go ?_
  refine K.GC.seq ?_
  refine K.GC.region ?_
  refine K.GL.det (K.e_move rfl) rfl ?_
  refine K.GL.s2b Tryz.underlying9 Tryz.underlying32 Tryz.underlying5 rfl rfl (fun b10 c10 junk => ?_)
  refine K.GL.det (K.e_assign rfl) rfl ?_
  refine K.GL.nil ?_
  refine K.GQ.go ?_
  refine K.GC.seq ?_
  refine K.GC.seq ?_
  refine K.GC.region ?_
  refine K.GL.det (K.e_assign rfl) rfl ?_
  refine K.GL.nil ?_
  refine K.GQ.go ?_
  refine K.GC.block ?_
  refine K.GC.loopk (α := Nat × Sec) [1, 2, 6, 7, 45, 46] rfl (fun x => [(8, .int .i64 (x.1 : Int))]) (fun x => [clz b10 5 (bv x.2.1 ++ junk)]) (fun x => x.1 ≤ 32 ∧ turnS x0 a0 w0 = turnS x.2 (a0 + x.1) (shn w0 x.1) ∧ a0 + x.1 ≤ 512) (fun x => (32 - x.1)) (0, x0) ⟨by simp only; omega, by simp only [shn_0, Nat.add_zero], by simp only; omega⟩ (by (repeat refine ⟨rfl, ?_⟩); exact trivial) (K.Sub.refl _) (fun x hI => ?_)
  obtain ⟨k, y⟩ := x
  obtain ⟨hk32, hts, hk5⟩ := hI
  simp only at hk32 hts hk5 ⊢
  refine K.GC.seq ?_
  refine K.GC.seq ?_
  refine K.GC.region ?_
  refine K.GL.det (K.e_move rfl) rfl ?_
  first | refine K.GL.det ((K.e_lt rfl rfl).yes (by omega)) rfl ?_ | refine K.GL.det ((K.e_lt rfl rfl).no (by omega)) rfl ?_ | refine K.GL.det (K.e_lt rfl rfl) rfl ?_
  refine K.GL.det (K.e_move rfl) rfl ?_
  first | refine K.GL.splitB 13 rfl (fun h1 => ?_) (fun h1 => ?_) | skip
  all_goals first | exact absurd h1 (by decide) | replace h1 := of_decide_eq_true h1 | replace h1 := of_decide_eq_false h1 | skip
  all_goals
    first | (refine K.GL.want 13 rfl rfl rfl ?_; first | refine K.GL.det (K.e_move rfl) rfl ?_) | refine K.GL.skip 13 rfl rfl rfl rfl ?_ | refine K.GL.skipU 13 rfl rfl rfl rfl ?_
    first | (refine K.GL.want 13 rfl rfl rfl ?_; first | refine K.GL.det (K.e_move rfl) rfl ?_) | refine K.GL.skip 13 rfl rfl rfl rfl ?_ | refine K.GL.skipU 13 rfl rfl rfl rfl ?_
    first | (refine K.GL.want 13 rfl rfl rfl ?_; first | refine K.GL.det (K.e_add rfl rfl ⟨by omega, by omega⟩) rfl ?_ | refine K.GL.det (K.e_addw rfl rfl) rfl ?_) | refine K.GL.skip 13 rfl rfl rfl rfl ?_ | refine K.GL.skipU 13 rfl rfl rfl rfl ?_
    first | (refine K.GL.want 13 rfl rfl rfl ?_; first | refine K.GL.det ((K.e_lt rfl rfl).yes (by omega)) rfl ?_ | refine K.GL.det ((K.e_lt rfl rfl).no (by omega)) rfl ?_ | refine K.GL.det (K.e_lt rfl rfl) rfl ?_) | refine K.GL.skip 13 rfl rfl rfl rfl ?_ | refine K.GL.skipU 13 rfl rfl rfl rfl ?_
    first | refine K.GL.det (K.e_pick_t rfl rfl) rfl ?_ | refine K.GL.det (K.e_pick_f rfl rfl) rfl ?_
    refine K.GL.nil ?_
    refine K.GQ.go ?_
    refine K.GC.condB rfl (fun h2 => ?_) (fun h2 => ?_)
    · first
      | exact absurd h2 (by decide)
      | try replace h2 := of_decide_eq_true h2
        refine K.GC.skip ?_
        refine K.GQ.go ?_
        refine K.GC.seq ?_
        refine K.GC.block ?_
        refine K.GC.seq ?_
        have h64 : y.1.length = 64 := y.2
        have hle := shn_le w0 k
        refine K.GC.region ?_
        refine K.GL.det (K.e_move rfl) rfl ?_
        refine K.GL.det (K.e_move rfl) rfl ?_
        refine K.GL.det ((K.e_shr rfl rfl (by omega)).cast_int (shr_k (by omega))) rfl ?_
        refine K.GL.det ((K.e_remk rfl rfl (by omega) (by omega) (K.wrap_u32 (by omega) (by omega)))) rfl ?_
        first | refine K.GL.det ((K.e_eq rfl rfl).yes (by omega)) rfl ?_ | refine K.GL.det ((K.e_eq rfl rfl).no (by omega)) rfl ?_ | refine K.GL.det (K.e_eq rfl rfl) rfl ?_
        refine K.GL.nil ?_
        refine K.GQ.go ?_
        refine K.GC.condB rfl (fun h3 => ?_) (fun h3 => ?_)
        · first
          | exact absurd h3 (by decide)
          | try replace h3 := of_decide_eq_true h3
            obtain ⟨b, hb⟩ : ∃ b, y.1[(a0 + k) / 8]? = some b := get_ex (by omega)
            refine K.GC.drawn 19 [[], [], [], [1, 2], [1, 2, 3], [], [], [], [6, 7], [6, 7, 8], [5, 6, 7, 8, 9], [5, 6, 7, 8, 9, 10], [], [], [12, 13], [12, 13, 14], [12, 13, 14, 15], [5, 6, 7, 8, 9, 10, 11, 12, 13, 14, 15, 16], [0, 1, 2, 3, 4, 5, 6, 7, 8, 9, 10, 11, 12, 13, 14, 15, 16, 17], [0, 1, 2, 3, 4, 5, 6, 7, 8, 9, 10, 11, 12, 13, 14, 15, 16, 17, 18]] [[], [], [], [1, 2], [3], [], [], [], [6, 7], [8], [5, 9], [10], [], [], [12, 13], [14], [15], [11, 16], [0, 4]] [1, 2, 6, 7, 8, 11, 12, 13, 14, 15, 16, 17, 18, 19, 20, 21, 22, 23, 24, 25, 45, 46] (by kernel_rfl) (by kernel_rfl) rfl ?_
            refine K.DW.det rfl (fun vs => K.e_move rfl) ?_
            refine K.DW.det rfl (fun vs => K.e_move rfl) ?_
            refine K.DW.det rfl (fun vs => K.e_move rfl) ?_
            first | refine K.DW.det rfl (fun vs => K.e_add rfl rfl ⟨by omega, by omega⟩) ?_ | refine K.DW.det rfl (fun vs => K.e_addw rfl rfl) ?_
            refine K.DW.det rfl (fun vs => K.e_quo rfl rfl (by omega) (by omega) (by omega)) ?_
            refine K.DW.det rfl (fun vs => K.e_move rfl) ?_
            refine K.DW.det rfl (fun vs => K.e_move rfl) ?_
            refine K.DW.det rfl (fun vs => K.e_move rfl) ?_
            first | refine K.DW.det rfl (fun vs => K.e_add rfl rfl ⟨by omega, by omega⟩) ?_ | refine K.DW.det rfl (fun vs => K.e_addw rfl rfl) ?_
            refine K.DW.det rfl (fun vs => K.e_quo rfl rfl (by omega) (by omega) (by omega)) ?_
            refine K.DW.det rfl (fun vs => K.e_indexAddr sl32 rfl rfl (by omega) (by omega)) ?_
            refine K.DW.det rfl (fun vs => K.e_loadw Tryz.isAgg5 rfl (fun w hT => (cell_of_any (hT.ok _ List.mem_cons_self)).trans (pre_get hb (by omega)))) ?_
            refine K.DW.det rfl (fun vs => K.e_move rfl) ?_
            refine K.DW.det rfl (fun vs => K.e_move rfl) ?_
            first | refine K.DW.det rfl (fun vs => K.e_add rfl rfl ⟨by omega, by omega⟩) ?_ | refine K.DW.det rfl (fun vs => K.e_addw rfl rfl) ?_
            refine K.DW.det rfl (fun vs => K.e_rem rfl rfl (by omega) (by omega) (by omega)) ?_
            refine K.DW.det rfl (fun vs => (K.e_shl rfl rfl (by omega)).cast_int (shl_one (k := a0 + k) (by omega))) ?_
            refine K.DW.det rfl (fun vs => (K.e_xor rfl rfl).cast_int xor_eq) ?_
            refine K.DW.det rfl (fun vs => K.e_indexAddr sl32 rfl rfl (by omega) (by omega)) ?_
            refine K.DW.fin0 rfl (fun vs => ?_)
            refine K.GL.keep [1, 2, 6, 7, 8, 11, 12, 13, 14, 15, 16, 17, 18, 19, 20, 21, 22, 23, 24, 25, 26, 27, 28, 29, 30, 31, 32, 33, 34, 35, 36, 37, 38, 39, 40, 41, 42, 43, 44, 45, 46] rfl ?_
            clear vs
            refine K.GL.storeZ (cs' := bv (flipS y (a0 + k) (shn w0 k)).1 ++ junk) rfl rfl rfl Tryz.sizeOf5 rfl (by rw [flip_bytes hb (by omega)]; exact pre_set (by omega) (by omega)) ?_
            refine K.GL.nil ?_
            refine K.GQ.block_normal ?_
            refine K.GQ.go ?_
            refine K.GC.region ?_
            refine K.GL.det (K.e_move rfl) rfl ?_
            first | refine K.GL.det (K.e_add rfl rfl ⟨by omega, by omega⟩) rfl ?_ | refine K.GL.det (K.e_addw rfl rfl) rfl ?_
            refine K.GL.det (K.e_assign rfl) rfl ?_
            refine K.GL.nil ?_
            first
              | exact K.GQ.round (k + 1, flipS y (a0 + k) (shn w0 k)) ⟨by simp only; omega, by rw [hts, turnS_step (by omega), shn_next]; rfl, by simp only; omega⟩ (by simp only; omega) (by (repeat refine ⟨rfl, ?_⟩); exact trivial) (Sub.refl _)
              | exact K.GQ.round (k + 1, y) ⟨by simp only; omega, by rw [hts, turnS_step (by omega), shn_next, flipS_even (by omega)]; rfl, by simp only; omega⟩ (by simp only; omega) (by (repeat refine ⟨rfl, ?_⟩); exact trivial) (Sub.refl _)
        · first
          | exact absurd h3 (by decide)
          | try replace h3 := of_decide_eq_false h3
            refine K.GC.skip ?_
            refine K.GQ.block_normal ?_
            refine K.GQ.go ?_
            refine K.GC.region ?_
            refine K.GL.det (K.e_move rfl) rfl ?_
            first | refine K.GL.det (K.e_add rfl rfl ⟨by omega, by omega⟩) rfl ?_ | refine K.GL.det (K.e_addw rfl rfl) rfl ?_
            refine K.GL.det (K.e_assign rfl) rfl ?_
            refine K.GL.nil ?_
            first
              | exact K.GQ.round (k + 1, flipS y (a0 + k) (shn w0 k)) ⟨by simp only; omega, by rw [hts, turnS_step (by omega), shn_next]; rfl, by simp only; omega⟩ (by simp only; omega) (by (repeat refine ⟨rfl, ?_⟩); exact trivial) (Sub.refl _)
              | exact K.GQ.round (k + 1, y) ⟨by simp only; omega, by rw [hts, turnS_step (by omega), shn_next, flipS_even (by omega)]; rfl, by simp only; omega⟩ (by simp only; omega) (by (repeat refine ⟨rfl, ?_⟩); exact trivial) (Sub.refl _)
    · first
      | exact absurd h2 (by decide)
      | try replace h2 := of_decide_eq_false h2
        refine K.GC.exit ?_
        refine K.GQ.then_exit ?_
        refine K.GQ.then_exit ?_
        refine K.GQ.block_hit ?_
        refine K.GQ.go ?_
        refine K.GC.seq ?_
        refine K.GC.region ?_
        refine K.GL.det (K.e_move rfl) rfl ?_
        refine K.GL.det (K.e_b2sw Tryz.underlying32 Tryz.underlying5 Tryz.underlying9 rfl (l := y.1) (fun w hT => Sl.pre_any (hT.ok _ List.mem_cons_self) (by rw [bv_length, y.2, x0.2]))) rfl ?_
        refine K.GL.det (K.e_assign rfl) rfl ?_
        refine K.GL.nil ?_
        refine K.GQ.go ?_
        refine K.GC.ret ?_
        refine K.GQ.ret1 Tryz.results36 rfl (fun w hT => ?_)
        have hz := shn_32 hw
        rcases (by omega : k = 32 ∨ 512 ≤ a0 + k) with h32 | h32
        · rw [hts, h32, hz, turnS_end (by omega)]; exact ⟨rfl, hT.nil⟩
        · rw [hts, turnS_end (by omega)]; exact ⟨rfl, hT.nil⟩
end Go.Proofs.YtdbedajaapamhaaGreat
