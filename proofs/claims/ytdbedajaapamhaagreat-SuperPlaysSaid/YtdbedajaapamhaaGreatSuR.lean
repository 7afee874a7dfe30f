/- What the functions of the document's device give: their contracts. -/
import Derived.Test.YtdbedajaapamhaaGreatSuC
import Derived.Test.YtdbedajaapamhaaGreatKr
namespace Go.Proofs.YtdbedajaapamhaaGreat
open Go Go.K
set_option linter.unusedVariables false
set_option linter.unusedSimpArgs false
attribute [local irreducible] Calls Ev GL GC GQ GR Code.wp
theorem get_bv {l : Bytes} {j : Nat} {b : UInt8} (h : l[j]? = some b) : (bv l)[j]? = some (.int .u8 (b.toNat : Int)) := by rw [bv_get, h]; rfl
theorem splice_at {cs : List Value} {o : Nat} {v : Value} (ho : o < cs.length) : spliceO cs o [v] = some (cs.set o v) := by
  rw [spliceO_of (by simp; omega)]
  congr 1
  rw [List.set_eq_take_append_cons_drop, if_pos ho]
  simp
theorem pre_get {l : Bytes} {junk : List Value} {i o : Nat} {v : UInt8} (h : l[i]? = some v) (ho : o = i) : (bv l ++ junk)[o]? = some (.int .u8 (v.toNat : Int)) := by
  subst ho
  have := (List.getElem?_eq_some_iff.1 h).1
  rw [List.getElem?_append_left (by rw [bv_length]; exact this), get_bv h]
theorem pre_set {l : Bytes} {junk : List Value} {i o : Nat} {v : UInt8} (h : i < l.length) (ho : o = i) : spliceO (bv l ++ junk) o [.int .u8 (v.toNat : Int)] = some (bv (l.set i v) ++ junk) := by
  subst ho
  rw [splice_at (by rw [List.length_append, bv_length]; omega), List.set_append_left _ _ (by rw [bv_length]; exact h)]
  unfold bv
  rw [List.map_set]

/-! ### The document's device, and where it lies -/
structure RG where
  s : DS
  W : List Bytes
  kb : Nat
  wb : Nat
  lb : Nat
  to : Int
def ksv (l : List Sec) : List Value := l.map fun y => K.str y.1
def wsv (l : List Bytes) : List Value := l.map K.str
def lov (s : DS) : List Value := (List.range s.kept.length).map fun i => .bool (s.loose i).isSome
abbrev RG.cells (g : RG) : List Value := [.slice (some ⟨g.kb, 0, none⟩) g.s.kept.length g.s.kept.length, .slice (some ⟨g.wb, 0, none⟩) g.s.kept.length g.s.kept.length, .slice (some ⟨g.lb, 0, none⟩) g.s.kept.length g.s.kept.length, .bool g.s.down, .int .i64 g.s.done, .int .i64 g.to, .bool (decide (0 ≤ g.s.cut))]
abbrev RG.L (g : RG) (r : Nat) : List Res := [cl r 63 g.cells, cl g.kb 9 (ksv g.s.kept), cl g.wb 9 (wsv g.W), cl g.lb 4 (lov g.s)]
def RefR (r : Nat) (g : RG) : Res := all (g.L r)
structure RG.Ok (g : RG) : Prop where
  wl : g.W.length = g.s.kept.length
  w : ∀ i y, g.s.loose i = some y → i < g.s.kept.length ∧ g.W[i]? = some y.1
  n1 : 1 ≤ g.s.kept.length
  n2 : g.s.kept.length ≤ 4096
  cut : I64 g.s.cut
  to : 0 ≤ g.s.cut → g.to = g.s.cut
theorem RefR.precise (r : Nat) (g : RG) : Precise (RefR r g) := Precise.all fun s hs => by
  simp only [List.mem_cons, List.not_mem_nil, or_false] at hs
  rcases hs with rfl | rfl | rfl | rfl <;> exact Precise.pt _ _
class PickR (L : List Res) (r : Nat) (g : outParam RG) (F : outParam (List Res)) : Prop where
  sub : Sub ([RefR r g] ++ F) L
  mem : RefR r g ∈ L
instance PickR.head {L : List Res} {r : Nat} {g : RG} : PickR (RefR r g :: L) r g L := ⟨Sub.refl _, List.mem_cons_self⟩
instance PickR.tail {L F : List Res} {x : Res} {r : Nat} {g : RG} [h : PickR L r g F] : PickR (x :: L) r g (x :: F) := ⟨by
  obtain ⟨σ, h1, h2⟩ := h.sub
  refine ⟨fun i => match i with | 0 => σ 0 + 1 | 1 => 0 | i + 2 => σ (i + 1) + 1, fun i j => ?_, fun i s => ?_⟩
  · match i, j with
    | 0, 0 => exact fun _ => rfl
    | 0, 1 => exact fun e => absurd e (by simp)
    | 0, j + 2 => intro e; have := h1 0 (j + 1) (by simpa using e); omega
    | 1, 0 => exact fun e => absurd e (by simp)
    | 1, 1 => exact fun _ => rfl
    | 1, j + 2 => exact fun e => absurd e (by simp)
    | i + 2, 0 => intro e; have := h1 (i + 1) 0 (by simpa using e); omega
    | i + 2, 1 => exact fun e => absurd e (by simp)
    | i + 2, j + 2 => intro e; have := h1 (i + 1) (j + 1) (by simpa using e); omega
  · match i with
    | 0 => intro e; simpa using h2 0 s (by simpa using e)
    | 1 => intro e; simpa using e
    | i + 2 => intro e; simpa using h2 (i + 1) s (by simpa using e), List.mem_cons_of_mem _ h.mem⟩
def RG.thing (g : RG) : RG := { g with s := g.s.thing, to := if g.s.able = true ∧ 0 < g.s.cut then g.to - 1 else g.to }
theorem RG.t_down {g : RG} (h : g.s.down = true) : g.thing = g ∧ errE g.s.able = 71 := by
  have ha : g.s.able = false := by unfold DS.able; rw [h]; rfl
  have : g.s.thing = g.s := by unfold DS.thing; rw [if_pos h]
  unfold RG.thing
  rw [this, if_neg (by rw [ha]; simp)]
  exact ⟨rfl, by rw [ha]; rfl⟩
theorem RG.t_cut {g : RG} (r : Nat) (h : g.s.down = false) (h2 : g.s.cut = 0) : errE g.s.able = 71 ∧ RefR r g.thing = all [cl r 63 [.slice (some ⟨g.kb, 0, none⟩) g.s.kept.length g.s.kept.length, .slice (some ⟨g.wb, 0, none⟩) g.s.kept.length g.s.kept.length, .slice (some ⟨g.lb, 0, none⟩) g.s.kept.length g.s.kept.length, .bool true, .int .i64 g.s.done, .int .i64 g.to, .bool (decide (0 ≤ g.s.cut))], cl g.kb 9 (ksv g.s.kept), cl g.wb 9 (wsv g.W), cl g.lb 4 (lov g.s)] := by
  have ha : g.s.able = false := by unfold DS.able; rw [h2]; simp
  have : g.s.thing = { g.s with down := true } := DS.thing_n ha
  refine ⟨by rw [ha]; rfl, ?_⟩
  unfold RG.thing
  rw [this, if_neg (by rw [ha]; simp)]
  rfl
theorem RG.t_dec {g : RG} (r : Nat) (h : g.s.down = false) (h2 : 0 < g.s.cut) : errE g.s.able = 0 ∧ RefR r g.thing = all [cl r 63 [.slice (some ⟨g.kb, 0, none⟩) g.s.kept.length g.s.kept.length, .slice (some ⟨g.wb, 0, none⟩) g.s.kept.length g.s.kept.length, .slice (some ⟨g.lb, 0, none⟩) g.s.kept.length g.s.kept.length, .bool g.s.down, .int .i64 (IntKind.i64.wrap (g.s.done + 1)), .int .i64 (g.to - 1), .bool (decide (0 ≤ g.s.cut))], cl g.kb 9 (ksv g.s.kept), cl g.wb 9 (wsv g.W), cl g.lb 4 (lov g.s)] := by
  have ha : g.s.able = true := DS.able_iff.2 ⟨h, by omega⟩
  have e : decide (0 ≤ g.s.cut) = decide (0 ≤ g.s.cut - 1) := by rw [decide_eq_true (by omega), decide_eq_true (by omega)]
  refine ⟨by rw [ha]; rfl, ?_⟩
  unfold RG.thing
  rw [DS.thing_y ha, if_pos ⟨ha, h2⟩, e]
  have e2 : g.s.did.cut = g.s.cut - 1 := by unfold DS.did; simp only; rw [if_pos h2]
  unfold RefR RG.L RG.cells
  simp only [e2]
  rfl
theorem RG.t_go {g : RG} (r : Nat) (h : g.s.down = false) (h2 : g.s.cut < 0) : errE g.s.able = 0 ∧ RefR r g.thing = all [cl r 63 [.slice (some ⟨g.kb, 0, none⟩) g.s.kept.length g.s.kept.length, .slice (some ⟨g.wb, 0, none⟩) g.s.kept.length g.s.kept.length, .slice (some ⟨g.lb, 0, none⟩) g.s.kept.length g.s.kept.length, .bool g.s.down, .int .i64 (IntKind.i64.wrap (g.s.done + 1)), .int .i64 g.to, .bool (decide (0 ≤ g.s.cut))], cl g.kb 9 (ksv g.s.kept), cl g.wb 9 (wsv g.W), cl g.lb 4 (lov g.s)] := by
  have ha : g.s.able = true := DS.able_iff.2 ⟨h, by omega⟩
  refine ⟨by rw [ha]; rfl, ?_⟩
  unfold RG.thing
  rw [DS.thing_y ha, if_neg (by omega)]
  have e2 : g.s.did.cut = g.s.cut := by unfold DS.did; simp only; rw [if_neg (by omega)]
  unfold RefR RG.L RG.cells
  simp only [e2]
  rfl
theorem DS.thing_kept (s : DS) : s.thing.kept = s.kept := by unfold DS.thing; repeat' split
                                                             all_goals rfl
theorem DS.thing_loose (s : DS) : s.thing.loose = s.loose := by unfold DS.thing; repeat' split
                                                                all_goals rfl
theorem RG.thing_ok {g : RG} (h : g.Ok) : g.thing.Ok := by
  have hc := h.cut
  unfold I64 at hc
  refine ⟨by show g.W.length = g.s.thing.kept.length; rw [DS.thing_kept]; exact h.wl, fun i y hy => ?_, by show 1 ≤ g.s.thing.kept.length; rw [DS.thing_kept]; exact h.n1, by show g.s.thing.kept.length ≤ 4096; rw [DS.thing_kept]; exact h.n2, ?_, ?_⟩
  · have hy' : g.s.thing.loose i = some y := hy
    rw [DS.thing_loose] at hy'
    show i < g.s.thing.kept.length ∧ _
    rw [DS.thing_kept]; exact h.w i y hy'
  · show I64 g.s.thing.cut
    unfold DS.thing
    repeat' split
    all_goals (try simp only [I64]); omega
  · show 0 ≤ g.s.thing.cut → (if g.s.able = true ∧ 0 < g.s.cut then g.to - 1 else g.to) = g.s.thing.cut
    intro h0
    cases ha : g.s.able with
    | true =>
      rw [DS.thing_y ha] at h0 ⊢
      simp only [DS.did] at h0 ⊢
      by_cases hp : 0 < g.s.cut
      · rw [if_pos ⟨trivial, hp⟩, if_pos hp]; have := h.to (by omega); omega
      · rw [if_neg (by omega)] at h0 ⊢
        rw [if_neg hp]; exact h.to h0
    | false =>
      rw [DS.thing_n ha] at h0 ⊢
      rw [if_neg (by simp)]
      exact h.to h0
theorem set_map {α : Type} (f : α → Value) {l : List α} {o i : Nat} {x : α} (hi : i < l.length) (ho : o = i) : spliceO (l.map f) o [f x] = some ((l.set i x).map f) := by
  subst ho
  rw [splice_at (by simp; exact hi), List.map_set]
theorem ksv_get {l : List Sec} {o i : Nat} {y : Sec} (h : l[i]? = some y) (ho : o = i) : (ksv l)[o]? = some (K.str y.1) := by subst ho; unfold ksv; rw [List.getElem?_map, h]; rfl
theorem wsv_get {l : List Bytes} {o i : Nat} {y : Bytes} (h : l[i]? = some y) (ho : o = i) : (wsv l)[o]? = some (K.str y) := by subst ho; unfold wsv; rw [List.getElem?_map, h]; rfl
theorem lov_get {s : DS} {o i : Nat} (h : i < s.kept.length) (ho : o = i) : (lov s)[o]? = some (.bool (s.loose i).isSome) := by subst ho; unfold lov; rw [List.getElem?_map, List.getElem?_range h]; rfl
theorem lov_set {s s' : DS} {o i : Nat} {b : Bool} (h : i < s.kept.length) (ho : o = i) (hl : s'.kept.length = s.kept.length) (hs : ∀ j, (s'.loose j).isSome = if j = i then b else (s.loose j).isSome) : spliceO (lov s) o [.bool b] = some (lov s') := by
  subst ho
  rw [splice_at (by simp [lov]; exact h)]
  congr 1
  refine List.ext_getElem? fun j => ?_
  by_cases hj : j < s.kept.length
  · rw [lov_get (s := s') (by omega) rfl, hs]
    by_cases e : j = o
    · subst e; rw [List.getElem?_set_self (by simp [lov]; exact h), if_pos rfl]
    · rw [List.getElem?_set_ne (by omega), lov_get hj rfl, if_neg e]
  · rw [List.getElem?_eq_none (by simp [lov]; omega), List.getElem?_eq_none (by simp [lov]; omega)]
theorem rrd_end {g : RG} {r b : Nat} {E : TypeId} {xs junk : List Value} {w0 w : World} (ho : (RefR r g).ok w0.heap) (hT : Tr w0 [RefR r g] w (clz b E (xs ++ junk) :: g.L r)) : Tr w0 [] w [rdr (some ⟨b, 0, none⟩) xs] := by
  have h1 := hT.z_rdr.sub (Sub.rot _ _)
  exact h1.closed.calmed ho (RefR.precise r g)

theorem fo63_4 : K.fieldOff Tryz.prog 63 4 = some (3, 4, 1) := by kernel_rfl
/- (*turntable/turntableref07.Dev).Done -/
set_option maxHeartbeats 1000000 in
set_option maxRecDepth 100000 in
theorem rdone_con {r : Nat} {g : RG} {w : World} (ho : (RefR r g).ok w.heap) :
    Calls Tryz.prog 20 #[.pointer (some ⟨r, 0, none⟩)] w fun e w' => e = .returned (.int .i64 g.s.done) ∧ Tr w [] w' [] := by
  refine K.enter (args := [_]) Tryz.func20 rfl Tryz.ntmps20 rfl (Disj.one _) (by intro r hr; simp only [List.mem_singleton] at hr; subst hr; exact ho) ?_
  refine K.GC.opened1 ?_
  refine K.GC.seq ?_
  refine K.GC.region ?_
  refine K.GL.det (K.e_assign rfl) rfl ?_
  refine K.GL.nil ?_
  refine K.GQ.go ?_
  refine K.GC.seq ?_
  refine K.GC.region ?_
  refine K.GL.det (K.e_move rfl) rfl ?_
  refine K.GL.det (K.e_nilCheck rfl) rfl ?_
  refine K.GL.det (K.e_fieldAddr fo63_4 rfl) rfl ?_
  first | refine K.GL.det (K.e_load Tryz.isAgg3 rfl rfl) rfl ?_ | refine K.GL.det (K.e_load0 Tryz.isAgg3 rfl (by assumption)) rfl ?_
  refine K.GL.det (K.e_assign rfl) rfl ?_
  refine K.GL.nil ?_
  refine K.GQ.go ?_
  refine K.GC.ret ?_
  refine K.GQ.ret1 Tryz.results20 rfl (fun w hT => ?_)
  exact ⟨rfl, hT.one.calmed ho (RefR.precise r g)⟩
theorem fo63_0 : K.fieldOff Tryz.prog 63 0 = some (61, 0, 1) := by kernel_rfl
/- (*turntable/turntableref07.Dev).is -/
set_option maxHeartbeats 1000000 in
set_option maxRecDepth 100000 in
theorem ris_con {r : Nat} {g : RG} (i : Int) {w : World} (ho : (RefR r g).ok w.heap) :
    Calls Tryz.prog 39 #[.pointer (some ⟨r, 0, none⟩), .int .i64 i] w fun e w' => e = .returned (.bool (decide (0 ≤ i ∧ i < g.s.kept.length))) ∧ Tr w [] w' [] := by
  refine K.enter (args := [_, _]) Tryz.func39 rfl Tryz.ntmps39 rfl (Disj.one _) (by intro r hr; simp only [List.mem_singleton] at hr; subst hr; exact ho) ?_
  refine K.GC.opened1 ?_
  refine K.GC.seq ?_
  refine K.GC.region ?_
  refine K.GL.det (K.e_assign rfl) rfl ?_
  refine K.GL.nil ?_
  refine K.GQ.go ?_
  refine K.GC.seq ?_
  refine K.GC.region ?_
  refine K.GL.det (K.e_move rfl) rfl ?_
  first | refine K.GL.det ((K.e_ge rfl rfl).yes (by first | omega | assumption | decide +kernel)) rfl ?_ | refine K.GL.det ((K.e_ge rfl rfl).no (by first | omega | assumption | decide +kernel)) rfl ?_ | refine K.GL.det (K.e_ge rfl rfl) rfl ?_
  refine K.GL.det (K.e_move rfl) rfl ?_
  first | refine K.GL.splitB 7 rfl (fun h1 => ?_) (fun h1 => ?_) | skip
  all_goals first | exact absurd h1 (by decide) | replace h1 := of_decide_eq_true h1 | replace h1 := of_decide_eq_false h1 | skip
  all_goals
    first | (refine K.GL.want 7 rfl rfl rfl ?_; first | refine K.GL.det (K.e_move rfl) rfl ?_) | refine K.GL.skip 7 rfl rfl rfl rfl ?_ | refine K.GL.skipU 7 rfl rfl rfl rfl ?_
    first | (refine K.GL.want 7 rfl rfl rfl ?_; first | refine K.GL.det (K.e_move rfl) rfl ?_) | refine K.GL.skip 7 rfl rfl rfl rfl ?_ | refine K.GL.skipU 7 rfl rfl rfl rfl ?_
    first | (refine K.GL.want 7 rfl rfl rfl ?_; first | refine K.GL.det (K.e_nilCheck rfl) rfl ?_) | refine K.GL.skip 7 rfl rfl rfl rfl ?_ | refine K.GL.skipU 7 rfl rfl rfl rfl ?_
    first | (refine K.GL.want 7 rfl rfl rfl ?_; first | refine K.GL.det (K.e_fieldAddr fo63_0 rfl) rfl ?_) | refine K.GL.skip 7 rfl rfl rfl rfl ?_ | refine K.GL.skipU 7 rfl rfl rfl rfl ?_
    first | (refine K.GL.want 7 rfl rfl rfl ?_; first | refine K.GL.det (K.e_load Tryz.isAgg61 rfl rfl) rfl ?_ | refine K.GL.det (K.e_load0 Tryz.isAgg61 rfl (by assumption)) rfl ?_) | refine K.GL.skip 7 rfl rfl rfl rfl ?_ | refine K.GL.skipU 7 rfl rfl rfl rfl ?_
    first | (refine K.GL.want 7 rfl rfl rfl ?_; first | refine K.GL.det (K.e_len Tryz.underlying61 rfl) rfl ?_) | refine K.GL.skip 7 rfl rfl rfl rfl ?_ | refine K.GL.skipU 7 rfl rfl rfl rfl ?_
    first | (refine K.GL.want 7 rfl rfl rfl ?_; first | refine K.GL.det ((K.e_lt rfl rfl).yes (by first | omega | assumption | decide +kernel)) rfl ?_ | refine K.GL.det ((K.e_lt rfl rfl).no (by first | omega | assumption | decide +kernel)) rfl ?_ | refine K.GL.det (K.e_lt rfl rfl) rfl ?_) | refine K.GL.skip 7 rfl rfl rfl rfl ?_ | refine K.GL.skipU 7 rfl rfl rfl rfl ?_
    first | refine K.GL.det (K.e_pick_t rfl rfl) rfl ?_ | refine K.GL.det (K.e_pick_f rfl rfl) rfl ?_
    refine K.GL.det (K.e_assign rfl) rfl ?_
    refine K.GL.nil ?_
    refine K.GQ.go ?_
    refine K.GC.ret ?_
    refine K.GQ.ret1 Tryz.results39 rfl (fun w hT => ?_)
    first | exact ⟨ret_yes (by omega), hT.one.calmed ho (RefR.precise r g)⟩ | exact ⟨ret_no (by omega), hT.one.calmed ho (RefR.precise r g)⟩ | exact ⟨ret_iff (by omega), hT.one.calmed ho (RefR.precise r g)⟩
theorem fo63_3 : K.fieldOff Tryz.prog 63 3 = some (4, 3, 1) := by kernel_rfl
theorem fo63_5 : K.fieldOff Tryz.prog 63 5 = some (3, 5, 1) := by kernel_rfl
theorem fo63_6 : K.fieldOff Tryz.prog 63 6 = some (4, 6, 1) := by kernel_rfl
/- (*turntable/turntableref07.Dev).thing -/
set_option maxHeartbeats 1000000 in
set_option maxRecDepth 100000 in
theorem rthing_con {r : Nat} {g : RG} (hk : g.Ok) {w : World} (ho : (RefR r g).ok w.heap) :
    Calls Tryz.prog 40 #[.pointer (some ⟨r, 0, none⟩)] w fun e w' => e = .returned (.int .i64 (errE g.s.able)) ∧ Tr w [RefR r g] w' [RefR r g.thing] := by
  have hcut := hk.cut
  unfold I64 at hcut
  have hto := hk.to
  refine K.enter (args := [_]) Tryz.func40 rfl Tryz.ntmps40 rfl (Disj.one _) (by intro r hr; simp only [List.mem_singleton] at hr; subst hr; exact ho) ?_
  refine K.GC.opened1 ?_
  refine K.GC.seq ?_
  refine K.GC.region ?_
  refine K.GL.det (K.e_assign rfl) rfl ?_
  refine K.GL.nil ?_
  refine K.GQ.go ?_
  refine K.GC.seq ?_
  refine K.GC.seq ?_
  refine K.GC.region ?_
  refine K.GL.det (K.e_move rfl) rfl ?_
  refine K.GL.det (K.e_nilCheck rfl) rfl ?_
  refine K.GL.det (K.e_fieldAddr fo63_3 rfl) rfl ?_
  first | refine K.GL.det (K.e_load Tryz.isAgg4 rfl rfl) rfl ?_ | refine K.GL.det (K.e_load0 Tryz.isAgg4 rfl (by assumption)) rfl ?_
  refine K.GL.nil ?_
  refine K.GQ.go ?_
  refine K.GC.condB rfl (fun h1 => ?_) (fun h1 => ?_)
  · first
    | exact absurd h1 (by decide)
    | try replace h1 := of_decide_eq_true h1
      refine K.GC.seq ?_
      refine K.GC.region ?_
      refine K.GL.det (K.e_assign rfl) rfl ?_
      refine K.GL.nil ?_
      refine K.GQ.go ?_
      refine K.GC.ret ?_
      refine K.GQ.then_ret ?_
      refine K.GQ.ret1 Tryz.results40 rfl (fun w hT => ?_)
      first
        | (have et := RG.t_down (g := g) (by assumption); rw [et.1, et.2]; exact ⟨rfl, hT.one⟩)
        | (have et := RG.t_cut (g := g) r (by assumption) (by omega); rw [et.1, et.2]; exact ⟨rfl, hT.one⟩)
        | (have et := RG.t_dec (g := g) r (by assumption) (by omega); rw [et.1, et.2]; exact ⟨rfl, hT.one⟩)
        | (have et := RG.t_go (g := g) r (by assumption) (by omega); rw [et.1, et.2]; exact ⟨rfl, hT.one⟩)
  · first
    | exact absurd h1 (by decide)
    | try replace h1 := of_decide_eq_false h1
      refine K.GC.skip ?_
      refine K.GQ.go ?_
      refine K.GC.seq ?_
      refine K.GC.seq ?_
      rcases (by omega : g.s.cut < 0 ∨ g.s.cut = 0 ∨ 0 < g.s.cut) with hc0 | hc0 | hc0
      all_goals
        refine K.GC.region ?_
        refine K.GL.det (K.e_move rfl) rfl ?_
        refine K.GL.det (K.e_nilCheck rfl) rfl ?_
        refine K.GL.det (K.e_fieldAddr fo63_6 rfl) rfl ?_
        first | refine K.GL.det (K.e_load Tryz.isAgg4 rfl rfl) rfl ?_ | refine K.GL.det (K.e_load0 Tryz.isAgg4 rfl (by assumption)) rfl ?_
        refine K.GL.det (K.e_move rfl) rfl ?_
        first | refine K.GL.splitB 11 rfl (fun h2 => ?_) (fun h2 => ?_) | skip
        all_goals first | exact absurd h2 (by decide) | replace h2 := of_decide_eq_true h2 | replace h2 := of_decide_eq_false h2 | skip
        all_goals
          first | (refine K.GL.want 11 rfl rfl rfl ?_; first | refine K.GL.det (K.e_move rfl) rfl ?_) | refine K.GL.skip 11 rfl rfl rfl rfl ?_ | refine K.GL.skipU 11 rfl rfl rfl rfl ?_
          first | (refine K.GL.want 11 rfl rfl rfl ?_; first | refine K.GL.det (K.e_nilCheck rfl) rfl ?_) | refine K.GL.skip 11 rfl rfl rfl rfl ?_ | refine K.GL.skipU 11 rfl rfl rfl rfl ?_
          first | (refine K.GL.want 11 rfl rfl rfl ?_; first | refine K.GL.det (K.e_fieldAddr fo63_5 rfl) rfl ?_) | refine K.GL.skip 11 rfl rfl rfl rfl ?_ | refine K.GL.skipU 11 rfl rfl rfl rfl ?_
          first | (refine K.GL.want 11 rfl rfl rfl ?_; first | refine K.GL.det (K.e_load Tryz.isAgg3 rfl rfl) rfl ?_ | refine K.GL.det (K.e_load0 Tryz.isAgg3 rfl (by assumption)) rfl ?_) | refine K.GL.skip 11 rfl rfl rfl rfl ?_ | refine K.GL.skipU 11 rfl rfl rfl rfl ?_
          first | (refine K.GL.want 11 rfl rfl rfl ?_; first | refine K.GL.det ((K.e_eq rfl rfl).yes (by first | omega | assumption | decide +kernel)) rfl ?_ | refine K.GL.det ((K.e_eq rfl rfl).no (by first | omega | assumption | decide +kernel)) rfl ?_ | refine K.GL.det (K.e_eq rfl rfl) rfl ?_) | refine K.GL.skip 11 rfl rfl rfl rfl ?_ | refine K.GL.skipU 11 rfl rfl rfl rfl ?_
          first | refine K.GL.det (K.e_pick_t rfl rfl) rfl ?_ | refine K.GL.det (K.e_pick_f rfl rfl) rfl ?_
          refine K.GL.nil ?_
          refine K.GQ.go ?_
          refine K.GC.condB rfl (fun h3 => ?_) (fun h3 => ?_)
          · first
            | exact absurd h3 (by decide)
            | try replace h3 := of_decide_eq_true h3
              refine K.GC.seq ?_
              refine K.GC.region ?_
              refine K.GL.det (K.e_move rfl) rfl ?_
              refine K.GL.det (K.e_nilCheck rfl) rfl ?_
              refine K.GL.det (K.e_fieldAddr fo63_3 rfl) rfl ?_
              refine K.GL.store rfl rfl rfl Tryz.sizeOf4 rfl rfl ?_
              refine K.GL.nil ?_
              refine K.GQ.go ?_
              refine K.GC.seq ?_
              refine K.GC.region ?_
              refine K.GL.det (K.e_assign rfl) rfl ?_
              refine K.GL.nil ?_
              refine K.GQ.go ?_
              refine K.GC.ret ?_
              refine K.GQ.then_ret ?_
              refine K.GQ.ret1 Tryz.results40 rfl (fun w hT => ?_)
              first
                | (have et := RG.t_down (g := g) (by assumption); rw [et.1, et.2]; exact ⟨rfl, hT.one⟩)
                | (have et := RG.t_cut (g := g) r (by assumption) (by omega); rw [et.1, et.2]; exact ⟨rfl, hT.one⟩)
                | (have et := RG.t_dec (g := g) r (by assumption) (by omega); rw [et.1, et.2]; exact ⟨rfl, hT.one⟩)
                | (have et := RG.t_go (g := g) r (by assumption) (by omega); rw [et.1, et.2]; exact ⟨rfl, hT.one⟩)
          · first
            | exact absurd h3 (by decide)
            | try replace h3 := of_decide_eq_false h3
              refine K.GC.skip ?_
              refine K.GQ.go ?_
              refine K.GC.seq ?_
              refine K.GC.seq ?_
              refine K.GC.region ?_
              refine K.GL.det (K.e_move rfl) rfl ?_
              refine K.GL.det (K.e_nilCheck rfl) rfl ?_
              refine K.GL.det (K.e_fieldAddr fo63_6 rfl) rfl ?_
              first | refine K.GL.det (K.e_load Tryz.isAgg4 rfl rfl) rfl ?_ | refine K.GL.det (K.e_load0 Tryz.isAgg4 rfl (by assumption)) rfl ?_
              refine K.GL.nil ?_
              refine K.GQ.go ?_
              refine K.GC.condB rfl (fun h4 => ?_) (fun h4 => ?_)
              · first
                | exact absurd h4 (by decide)
                | try replace h4 := of_decide_eq_true h4
                  refine K.GC.region ?_
                  refine K.GL.det (K.e_move rfl) rfl ?_
                  refine K.GL.det (K.e_move rfl) rfl ?_
                  refine K.GL.det (K.e_nilCheck rfl) rfl ?_
                  refine K.GL.det (K.e_fieldAddr fo63_5 rfl) rfl ?_
                  first | refine K.GL.det (K.e_load Tryz.isAgg3 rfl rfl) rfl ?_ | refine K.GL.det (K.e_load0 Tryz.isAgg3 rfl (by assumption)) rfl ?_
                  refine K.GL.det (K.e_sub rfl rfl ⟨by omega, by omega⟩) rfl ?_
                  refine K.GL.det (K.e_nilCheck rfl) rfl ?_
                  refine K.GL.det (K.e_fieldAddr fo63_5 rfl) rfl ?_
                  refine K.GL.store rfl rfl rfl Tryz.sizeOf3 rfl rfl ?_
                  refine K.GL.nil ?_
                  refine K.GQ.go ?_
                  refine K.GC.seq ?_
                  refine K.GC.region ?_
                  refine K.GL.det (K.e_move rfl) rfl ?_
                  refine K.GL.det (K.e_move rfl) rfl ?_
                  refine K.GL.det (K.e_nilCheck rfl) rfl ?_
                  refine K.GL.det (K.e_fieldAddr fo63_4 rfl) rfl ?_
                  first | refine K.GL.det (K.e_load Tryz.isAgg3 rfl rfl) rfl ?_ | refine K.GL.det (K.e_load0 Tryz.isAgg3 rfl (by assumption)) rfl ?_
                  refine K.GL.det (K.e_addw rfl rfl) rfl ?_
                  refine K.GL.det (K.e_nilCheck rfl) rfl ?_
                  refine K.GL.det (K.e_fieldAddr fo63_4 rfl) rfl ?_
                  refine K.GL.store rfl rfl rfl Tryz.sizeOf3 rfl rfl ?_
                  refine K.GL.nil ?_
                  refine K.GQ.go ?_
                  refine K.GC.seq ?_
                  refine K.GC.region ?_
                  refine K.GL.det (K.e_assign rfl) rfl ?_
                  refine K.GL.nil ?_
                  refine K.GQ.go ?_
                  refine K.GC.ret ?_
                  refine K.GQ.ret1 Tryz.results40 rfl (fun w hT => ?_)
                  first
                    | (have et := RG.t_down (g := g) (by assumption); rw [et.1, et.2]; exact ⟨rfl, hT.one⟩)
                    | (have et := RG.t_cut (g := g) r (by assumption) (by omega); rw [et.1, et.2]; exact ⟨rfl, hT.one⟩)
                    | (have et := RG.t_dec (g := g) r (by assumption) (by omega); rw [et.1, et.2]; exact ⟨rfl, hT.one⟩)
                    | (have et := RG.t_go (g := g) r (by assumption) (by omega); rw [et.1, et.2]; exact ⟨rfl, hT.one⟩)
              · first
                | exact absurd h4 (by decide)
                | try replace h4 := of_decide_eq_false h4
                  refine K.GC.skip ?_
                  refine K.GQ.go ?_
                  refine K.GC.seq ?_
                  refine K.GC.region ?_
                  refine K.GL.det (K.e_move rfl) rfl ?_
                  refine K.GL.det (K.e_move rfl) rfl ?_
                  refine K.GL.det (K.e_nilCheck rfl) rfl ?_
                  refine K.GL.det (K.e_fieldAddr fo63_4 rfl) rfl ?_
                  first | refine K.GL.det (K.e_load Tryz.isAgg3 rfl rfl) rfl ?_ | refine K.GL.det (K.e_load0 Tryz.isAgg3 rfl (by assumption)) rfl ?_
                  refine K.GL.det (K.e_addw rfl rfl) rfl ?_
                  refine K.GL.det (K.e_nilCheck rfl) rfl ?_
                  refine K.GL.det (K.e_fieldAddr fo63_4 rfl) rfl ?_
                  refine K.GL.store rfl rfl rfl Tryz.sizeOf3 rfl rfl ?_
                  refine K.GL.nil ?_
                  refine K.GQ.go ?_
                  refine K.GC.seq ?_
                  refine K.GC.region ?_
                  refine K.GL.det (K.e_assign rfl) rfl ?_
                  refine K.GL.nil ?_
                  refine K.GQ.go ?_
                  refine K.GC.ret ?_
                  refine K.GQ.ret1 Tryz.results40 rfl (fun w hT => ?_)
                  first
                    | (have et := RG.t_down (g := g) (by assumption); rw [et.1, et.2]; exact ⟨rfl, hT.one⟩)
                    | (have et := RG.t_cut (g := g) r (by assumption) (by omega); rw [et.1, et.2]; exact ⟨rfl, hT.one⟩)
                    | (have et := RG.t_dec (g := g) r (by assumption) (by omega); rw [et.1, et.2]; exact ⟨rfl, hT.one⟩)
                    | (have et := RG.t_go (g := g) r (by assumption) (by omega); rw [et.1, et.2]; exact ⟨rfl, hT.one⟩)

section
variable {ops : Array Oper} {Q : Exit → Act → World → Prop} {N : Nat} {U : Env} {w0 : World} {L0 L F : List Res} {ty : TypeId} {rest : List Oper} {pos : String} {after : Array Edge} {r : Nat} {g : RG} {xs : List Operand} {tys : Array TypeId} {t : Tmp}
theorem gl_rthing (hf : ∀ args w, (callFunc 40 args).run Tryz.prog w = .ok (.enter 40 args) w) (hx : opvs U xs = some [.pointer (some ⟨r, 0, none⟩)]) [hp : PickR L r g F] (hk : g.Ok) (hd : Nat.ble (t + 1) N = true)
    (hr : GL Tryz.prog ops Q rest N ((t, .int .i64 (errE g.s.able)) :: U) w0 L0 (RefR r g.thing :: F)) : GL Tryz.prog ops Q (⟨some t, .call ⟨.value (.func 40), xs.toArray, tys⟩, ty, pos, after, Option.none⟩ :: rest) N U w0 L0 L :=
  GL.callM (α := Unit) (Pv := fun _ v => v = .int .i64 (errE g.s.able)) (l' := fun _ => [RefR r g.thing]) hf hx hp.sub (fun w hT => (rthing_con hk (hT.ok _ hp.mem)).mono fun e w' ⟨he, ht⟩ => ⟨(), _, he, rfl, ht⟩) hd fun _ v hv => by subst hv; exact hr
end

end Go.Proofs.YtdbedajaapamhaaGreat
