/- What the functions of the document's device give: a Boot, and a new one. -/
import Derived.Test.YtdbedajaapamhaaGreatSuRT
namespace Go.Proofs.YtdbedajaapamhaaGreat
open Go Go.K
set_option linter.unusedVariables false
set_option linter.unusedSimpArgs false
attribute [local irreducible] Calls Ev GL GC GQ GR Code.wp
def DS.bx (s : DS) (x : Nat) : DS := { s with loose := fun j => if j ∈ s.list.take x then none else s.loose j }
theorem lov_bx0 (s : DS) : lov (s.bx 0) = lov s := by
  unfold lov DS.bx
  simp
theorem lov_bx {s : DS} {x i o : Nat} (h : s.list[x]? = some i) (hi : i < s.kept.length) (ho : o = i) : spliceO (lov (s.bx x)) o [.bool false] = some (lov (s.bx (x + 1))) := by
  refine lov_set (s := s.bx x) (i := i) hi ho rfl fun j => ?_
  show (if j ∈ s.list.take (x + 1) then none else s.loose j).isSome = if j = i then false else (if j ∈ s.list.take x then none else s.loose j).isSome
  rw [List.take_add_one, h]
  by_cases hj : j = i
  · subst hj; simp
  · simp [hj]
theorem lov_bx_end {s s' : DS} (hl : s'.kept.length = s.kept.length) (hn : ∀ j, s'.loose j = none) : lov (s.bx s.list.length) = lov s' := by
  unfold lov
  have e : (s.bx s.list.length).kept.length = s'.kept.length := hl.symm
  rw [e]
  refine List.map_congr_left fun j hj => ?_
  have hj' := List.mem_range.1 hj
  rw [hn j]
  show Value.bool (if j ∈ s.list.take s.list.length then none else s.loose j).isSome = _
  rw [List.take_length]
  by_cases hm : j ∈ s.list
  · rw [if_pos hm]
  · rw [if_neg hm]
    cases h : s.loose j with
    | none => rfl
    | some y => exact absurd (DS.list_mem.2 ⟨by omega, by rw [h]; rfl⟩) hm
theorem rb_R {g : RG} (r : Nat) (ks : List Bool) (hs : List HX) : RefR r { g with s := g.s.boot ks hs } = all [cl r 63 [.slice (some ⟨g.kb, 0, none⟩) g.s.kept.length g.s.kept.length, .slice (some ⟨g.wb, 0, none⟩) g.s.kept.length g.s.kept.length, .slice (some ⟨g.lb, 0, none⟩) g.s.kept.length g.s.kept.length, .bool false, .int .i64 g.s.done, .int .i64 g.to, .bool false], cl g.kb 9 (ksv (g.s.hurts ks hs)), cl g.wb 9 (wsv g.W), cl g.lb 4 (lov (g.s.bx g.s.list.length))] := by
  have hl : (g.s.boot ks hs).kept.length = g.s.kept.length := DS.boot_len _ _ _
  rw [lov_bx_end (s' := g.s.boot ks hs) hl (fun j => rfl)]
  unfold RefR RG.L RG.cells
  simp only [hl]
  rfl
theorem rb_ok {g : RG} (hk : g.Ok) (ks : List Bool) (hs : List HX) : RG.Ok { g with s := g.s.boot ks hs } := by
  have hl : (g.s.boot ks hs).kept.length = g.s.kept.length := DS.boot_len _ _ _
  refine ⟨by show g.W.length = _; rw [hl]; exact hk.wl, fun i y hy => ?_, by show 1 ≤ (g.s.boot ks hs).kept.length; rw [hl]; exact hk.n1, by show (g.s.boot ks hs).kept.length ≤ 4096; rw [hl]; exact hk.n2, ?_, ?_⟩
  · have hy' : (g.s.boot ks hs).loose i = some y := hy
    cases hy'
  · show I64 (-1); unfold I64; omega
  · intro h
    have h' : (0 : Int) ≤ -1 := h
    omega
theorem get_set_sec {l : List Sec} {i o : Nat} {y : Sec} (hi : i < l.length) (ho : o = i) : spliceO (ksv l) o [K.str y.1] = some (ksv (l.set i y)) := set_map (fun y : Sec => K.str y.1) hi ho
def knew (n x : Nat) : List Value := (List.range n).map fun j => if j < x then K.str (secOf 0).1 else K.str []
theorem zeros_one (v : Value) (n : Nat) : zeros [v] n = List.replicate n v := by
  have h : zeros [v] n = (List.replicate n ()).flatMap fun _ => [v] := zeros_flat (fun _ : Unit => [v]) () n
  have e : ∀ m, (List.replicate m ()).flatMap (fun _ => [v]) = List.replicate m v := by
    intro m
    induction m with
    | zero => rfl
    | succ m ih => rw [List.replicate_succ, List.flatMap_cons, ih, List.replicate_succ]; rfl
  rw [h, e]
theorem knew_0 (n : Nat) : knew n 0 = zeros [.string ⟨#[]⟩] n := by
  rw [zeros_one]
  unfold knew
  refine List.ext_getElem? fun j => ?_
  by_cases hj : j < n
  · rw [List.getElem?_map, List.getElem?_range hj, List.getElem?_replicate, if_pos hj]; rfl
  · rw [List.getElem?_eq_none (by simp; omega), List.getElem?_eq_none (by simp; omega)]
theorem knew_set {n x o : Nat} (hx : x < n) (ho : o = x) : spliceO (knew n x) o [K.str (secOf 0).1] = some (knew n (x + 1)) := by
  subst ho
  rw [splice_at (by simp [knew]; exact hx)]
  congr 1
  unfold knew
  refine List.ext_getElem? fun j => ?_
  by_cases hj : j < n
  · rw [List.getElem?_map, List.getElem?_range hj]
    by_cases e : j = o
    · subst e; rw [List.getElem?_set_self (by simp; exact hx)]; simp
    · rw [List.getElem?_set_ne (by omega), List.getElem?_map, List.getElem?_range hj]
      simp only [Option.map_some]
      by_cases h2 : j < o
      · rw [if_pos h2, if_pos (by omega)]
      · rw [if_neg h2, if_neg (by omega)]
  · rw [List.getElem?_eq_none (by simp; omega), List.getElem?_eq_none (by simp; omega)]
theorem knew_n (n : Nat) : knew n n = ksv (DS.new n).kept := by
  unfold knew ksv DS.new
  refine List.ext_getElem? fun j => ?_
  by_cases hj : j < n
  · rw [List.getElem?_map, List.getElem?_range hj, List.getElem?_map, List.getElem?_replicate, if_pos hj]; simp [hj]
  · rw [List.getElem?_eq_none (by simp; omega), List.getElem?_eq_none (by simp; omega)]
theorem wnew (n : Nat) : zeros [.string ⟨#[]⟩] n = wsv (List.replicate n []) := by
  rw [← knew_0]
  unfold knew wsv
  refine List.ext_getElem? fun j => ?_
  by_cases hj : j < n
  · rw [List.getElem?_map, List.getElem?_range hj, List.getElem?_map, List.getElem?_replicate, if_pos hj]; simp
  · rw [List.getElem?_eq_none (by simp; omega), List.getElem?_eq_none (by simp; omega)]
theorem lnew (n : Nat) : zeros [.bool false] n = lov (DS.new n) := by
  rw [zeros_one]
  unfold lov DS.new
  refine List.ext_getElem? fun j => ?_
  by_cases hj : j < n
  · rw [List.getElem?_map, List.getElem?_range (by simpa using hj), List.getElem?_replicate, if_pos hj]; rfl
  · rw [List.getElem?_eq_none (by simp; omega), List.getElem?_eq_none (by simp; omega)]
theorem rn_R {n kb wb lb : Nat} (r : Nat) : RefR r ⟨DS.new n, List.replicate n [], kb, wb, lb, 0⟩ = all [cl r 63 [.slice (some ⟨kb, 0, none⟩) n n, .slice (some ⟨wb, 0, none⟩) n n, .slice (some ⟨lb, 0, none⟩) n n, .bool false, .int .i64 0, .int .i64 0, .bool false], cl kb 9 (knew n n), cl wb 9 (zeros [.string ⟨#[]⟩] n), cl lb 4 (zeros [.bool false] n)] := by
  have hl : (DS.new n).kept.length = n := by simp [DS.new]
  rw [knew_n, wnew, lnew]
  unfold RefR RG.L RG.cells
  simp only [hl]
  rfl
theorem rn_ok {n kb wb lb : Nat} (h1 : 1 ≤ n) (h2 : n ≤ 4096) : RG.Ok ⟨DS.new n, List.replicate n [], kb, wb, lb, 0⟩ := by
  have hl : (DS.new n).kept.length = n := by simp [DS.new]
  refine ⟨by show (List.replicate n ([] : Bytes)).length = _; rw [hl]; simp, fun i y hy => ?_, by show 1 ≤ (DS.new n).kept.length; omega, by show (DS.new n).kept.length ≤ 4096; omega, by show I64 (-1); unfold I64; omega, fun h => ?_⟩
  · have hy' : (DS.new n).loose i = some y := hy
    cases hy'
  · have h' : (0 : Int) ≤ -1 := h
    omega


section
variable {ops : Array Oper} {Q : Exit → Act → World → Prop} {N : Nat} {U : Env} {w0 : World} {L0 L F : List Res} {ty : TypeId} {rest : List Oper} {pos : String} {after : Array Edge} {r : Nat} {g : RG} {xs : List Operand} {tys : Array TypeId} {t : Tmp}
theorem gl_rloose (hf : ∀ args w, (callFunc 23 args).run Tryz.prog w = .ok (.enter 23 args) w) (hx : opvs U xs = some [.pointer (some ⟨r, 0, none⟩)]) [hp : PickR L r g F] (hk : g.Ok) (hd : Nat.ble (t + 1) N = true)
    (hr : ∀ a c, GL Tryz.prog ops Q rest N ((t, .slice a g.s.list.length c) :: U) w0 L0 (row a c 1 3 (ints g.s.list) :: L)) : GL Tryz.prog ops Q (⟨some t, .call ⟨.value (.func 23), xs.toArray, tys⟩, ty, pos, after, Option.none⟩ :: rest) N U w0 L0 L :=
  GL.callM (α := Option Addr × Nat) (l := []) (Pv := fun x v => v = .slice x.1 g.s.list.length x.2) (l' := fun x => [row x.1 x.2 1 3 (ints g.s.list)]) hf hx (Sub.refl _)
    (fun w hT => (rloose_con hk (hT.ok _ hp.mem)).mono fun e w' ⟨a, c, he, ht⟩ => ⟨(a, c), _, he, rfl, ht⟩) hd fun x v hv => by subst hv; exact hr x.1 x.2
end

/- (*turntable/turntableref07.Dev).Boot -/
set_option maxHeartbeats 4000000 in
set_option maxRecDepth 100000 in
theorem rboot_con {r : Nat} {g : RG} (hk : g.Ok) {ak ah : Option Addr} {nk ck nh ch : Nat} {ks : List Bool} {hs : List HX} {w : World} (ho : (RefR r g).ok w.heap) (hSk : Sl w 1 ak nk (ks.map .bool)) (hfk : 0 < nk → ¬ (RefR r g).fp (bk ak)) (hSh : Sl w 3 ah nh (hs.flatMap encH)) (hfh : 0 < nh → ¬ (RefR r g).fp (bk ah)) (hb : ∀ h ∈ hs, h.bits < 4294967296) (hnh : nh ≤ 9223372036854775807) :
    Calls Tryz.prog 13 #[.pointer (some ⟨r, 0, none⟩), .slice ak nk ck, .slice ah nh ch] w fun e w' => ∃ v, ∃ x : RG, e = .returned v ∧ x.Ok ∧ x.s = g.s.boot ks hs ∧ Tr w [RefR r g] w' [RefR r x] := by
  have hll : g.s.list.length ≤ 4096 := Nat.le_trans g.s.list_len hk.n2
  have hwl := hk.wl
  have hkl : ks.length = nk := by have := hSk.len; rw [List.length_map] at this; omega
  have hhl : hs.length = nh := hSh.count (by omega) encH_len
  refine K.enter (args := [_, _, _]) Tryz.func13 rfl Tryz.ntmps13 rfl (Disj.one _) (by intro x hx; simp only [List.mem_singleton] at hx; subst hx; exact ho) ?_
  refine K.GC.seq ?_
  refine K.GC.region ?_
  refine K.GL.det (K.e_move rfl) rfl ?_
  refine gl_rloose Tryz.call23 rfl hk rfl (fun a11 c11 => ?_)
  refine K.GL.det (K.e_assign rfl) rfl ?_
  refine K.GL.nil ?_
  refine K.GQ.go ?_
  refine K.GC.seq ?_
  refine K.GC.seq ?_
  refine K.GC.fact (p := 0 < g.s.list.length → a11 = some ⟨bk a11, of_ a11, none⟩) (fun w hT => (hT.sl_row (k := 1) (n := g.s.list.length) List.mem_cons_self (by omega) (by simp [ints])).base) (fun hbase => ?_)
  refine K.GC.res (L' := RefR r g :: [row a11 c11 1 3 (ints g.s.list)]) ?_ (K.Sub.front (L := [row a11 c11 1 3 (ints g.s.list), RefR r g]) (i := 1) (r := RefR r g) rfl)
  refine K.GC.opened (l := g.L r) (F := [row a11 c11 1 3 (ints g.s.list)]) ?_
  refine K.GC.region ?_
  refine K.GL.det (K.e_assign rfl) rfl ?_
  refine K.GL.nil ?_
  refine K.GQ.go ?_
  refine K.GC.block ?_
  refine K.GC.loopk (α := Nat) [0, 1, 2, 6, 8, 9, 56, 57, 58, 59, 60, 61, 62, 63, 64, 65, 66, 67, 68, 69, 70, 71, 72, 73, 74, 75, 76, 77, 78, 79, 80, 81, 82, 83, 84, 85, 86, 87, 88, 89, 90, 91, 92, 93, 94, 95, 96, 97, 98, 99, 100, 101, 102, 103, 104, 105, 106, 107, 108, 109, 110, 111, 112, 113, 114, 115, 116, 117, 118, 119, 120, 121, 122, 123, 124, 125, 126, 127, 128, 129, 130, 131] rfl (fun x => [(7, .int .i64 (x : Int))]) (fun x => [cl r 63 g.cells, cl g.kb 9 (ksv (g.s.keptL ks x)), cl g.wb 9 (wsv g.W), cl g.lb 4 (lov (g.s.bx x)), row a11 c11 1 3 (ints g.s.list)]) (fun x => x ≤ g.s.list.length) (fun x => (g.s.list.length - x)) 0 (by omega) (by (repeat refine ⟨rfl, ?_⟩); exact trivial) (by rw [lov_bx0]; exact Sub.refl _) (fun x hI => ?_)
  refine K.GC.seq ?_
  refine K.GC.seq ?_
  refine K.GC.region ?_
  refine K.GL.det (K.e_move rfl) rfl ?_
  refine K.GL.det (K.e_move rfl) rfl ?_
  refine K.GL.det (K.e_len Tryz.underlying51 rfl) rfl ?_
  first | refine K.GL.det ((K.e_lt rfl rfl).yes (by omega)) rfl ?_ | refine K.GL.det ((K.e_lt rfl rfl).no (by omega)) rfl ?_ | refine K.GL.det (K.e_lt rfl rfl) rfl ?_
  refine K.GL.nil ?_
  refine K.GQ.go ?_
  refine K.GC.condB rfl (fun h1 => ?_) (fun h1 => ?_)
  · first
    | exact absurd h1 (by decide)
    | try replace h1 := of_decide_eq_true h1
      refine K.GC.skip ?_
      refine K.GQ.go ?_
      refine K.GC.seq ?_
      refine K.GC.block ?_
      refine K.GC.seq ?_
      refine K.GC.seq ?_
      obtain ⟨i, hi⟩ : ∃ i, g.s.list[x]? = some i := get_ex (by omega)
      have hm := DS.list_mem.1 (List.mem_of_getElem? hi)
      have hin := hm.1
      obtain ⟨y, hy⟩ := Option.isSome_iff_exists.1 hm.2
      have hkpl := keptL_length g.s ks x
      refine K.GC.region ?_
      refine K.GL.det (K.e_move rfl) rfl ?_
      refine K.GL.det (K.e_move rfl) rfl ?_
      refine K.GL.det (K.e_len Tryz.underlying33 rfl) rfl ?_
      first | refine K.GL.det ((K.e_lt rfl rfl).yes (by omega)) rfl ?_ | refine K.GL.det ((K.e_lt rfl rfl).no (by omega)) rfl ?_ | refine K.GL.det (K.e_lt rfl rfl) rfl ?_
      refine K.GL.det (K.e_move rfl) rfl ?_
      first | refine K.GL.splitB 22 rfl (fun h2 => ?_) (fun h2 => ?_) | skip
      all_goals first | exact absurd h2 (by decide) | replace h2 := of_decide_eq_true h2 | replace h2 := of_decide_eq_false h2 | skip
      all_goals
        first | (refine K.GL.want 22 rfl rfl rfl ?_; first | refine K.GL.det (K.e_move rfl) rfl ?_) | refine K.GL.skip 22 rfl rfl rfl rfl ?_ | refine K.GL.skipU 22 rfl rfl rfl rfl ?_
        first | (refine K.GL.want 22 rfl rfl rfl ?_; first | refine K.GL.det (K.e_move rfl) rfl ?_) | refine K.GL.skip 22 rfl rfl rfl rfl ?_ | refine K.GL.skipU 22 rfl rfl rfl rfl ?_
        first | (refine K.GL.want 22 rfl rfl rfl ?_; first | refine K.GL.det (K.e_indexAddrS sl33 rfl rfl hSk (by omega) (by omega)) rfl ?_) | refine K.GL.skip 22 rfl rfl rfl rfl ?_ | refine K.GL.skipU 22 rfl rfl rfl rfl ?_
        first | (refine K.GL.want 22 rfl rfl rfl ?_; first | refine K.GL.det (K.e_loadw Tryz.isAgg4 rfl (fun w hT => (hSk.stay hT (fun x hx => by simp only [List.mem_singleton] at hx; subst hx; exact hfk (by omega))).cell _ _ (get_bool (x := x) (by omega) (by omega)))) rfl ?_) | refine K.GL.skip 22 rfl rfl rfl rfl ?_ | refine K.GL.skipU 22 rfl rfl rfl rfl ?_
        first | refine K.GL.det (K.e_pick_t rfl rfl) rfl ?_ | refine K.GL.det (K.e_pick_f rfl rfl) rfl ?_
        refine K.GL.nil ?_
        refine K.GQ.go ?_
        refine K.GC.condB rfl (fun h3 => ?_) (fun h3 => ?_)
        · first
          | exact absurd h3 (by decide)
          | try replace h3 := of_decide_eq_true h3
            refine K.GC.drawn 19 [[], [0], [0, 1], [0, 1, 2], [], [], [4, 5], [4, 5, 6], [], [8], [8, 9], [8, 9, 10], [], [], [12, 13], [12, 13, 14], [8, 9, 10, 11, 12, 13, 14, 15], [8, 9, 10, 11, 12, 13, 14, 15, 16], [0, 1, 2, 3, 4, 5, 6, 7, 8, 9, 10, 11, 12, 13, 14, 15, 16, 17], [0, 1, 2, 3, 4, 5, 6, 7, 8, 9, 10, 11, 12, 13, 14, 15, 16, 17, 18]] [[], [0], [1], [2], [], [], [4, 5], [6], [], [8], [9], [10], [], [], [12, 13], [14], [11, 15], [16], [3, 7]] [0, 1, 2, 6, 7, 8, 9, 12, 13, 14, 15, 16, 17, 18, 19, 20, 21, 22, 23, 24, 25, 26, 27, 47, 48, 49, 50, 51, 52, 53, 54, 55, 56, 57, 58, 59, 60, 61, 62, 63, 64, 65, 66, 67, 68, 69, 70, 71, 72, 73, 74, 75, 76, 77, 78, 79, 80, 81, 82, 83, 84, 85, 86, 87, 88, 89, 90, 91, 92, 93, 94, 95, 96, 97, 98, 99, 100, 101, 102, 103, 104, 105, 106, 107, 108, 109, 110, 111, 112, 113, 114, 115, 116, 117, 118, 119, 120, 121, 122, 123, 124, 125, 126, 127, 128, 129, 130, 131] (by kernel_rfl) (by kernel_rfl) rfl ?_
            refine K.DW.det rfl (fun vs => K.e_move rfl) ?_
            refine K.DW.det rfl (fun vs => K.e_nilCheck rfl) ?_
            refine K.DW.det rfl (fun vs => K.e_fieldAddr fo63_0 rfl) ?_
            first | refine K.DW.det rfl (fun vs => K.e_load Tryz.isAgg61 rfl rfl) ?_ | refine K.DW.det rfl (fun vs => K.e_load0 Tryz.isAgg61 rfl (by assumption)) ?_
            refine K.DW.det rfl (fun vs => K.e_move rfl) ?_
            refine K.DW.det rfl (fun vs => K.e_move rfl) ?_
            refine K.DW.det rfl (fun vs => K.e_indexAddrB sl51 rfl rfl hbase (by omega) (by omega)) ?_
            refine K.DW.det rfl (fun vs => K.e_loadw Tryz.isAgg3 rfl (fun w hT => (hT.sl_row (k := 1) (n := g.s.list.length) HasW.mem (by omega) (by simp [ints])).cell _ _ (get_ints hi (by omega)))) ?_
            refine K.DW.det rfl (fun vs => K.e_move rfl) ?_
            refine K.DW.det rfl (fun vs => K.e_nilCheck rfl) ?_
            refine K.DW.det rfl (fun vs => K.e_fieldAddr fo63_1 rfl) ?_
            first | refine K.DW.det rfl (fun vs => K.e_load Tryz.isAgg61 rfl rfl) ?_ | refine K.DW.det rfl (fun vs => K.e_load0 Tryz.isAgg61 rfl (by assumption)) ?_
            refine K.DW.det rfl (fun vs => K.e_move rfl) ?_
            refine K.DW.det rfl (fun vs => K.e_move rfl) ?_
            refine K.DW.det rfl (fun vs => K.e_indexAddrB sl51 rfl rfl hbase (by omega) (by omega)) ?_
            refine K.DW.det rfl (fun vs => K.e_loadw Tryz.isAgg3 rfl (fun w hT => (hT.sl_row (k := 1) (n := g.s.list.length) HasW.mem (by omega) (by simp [ints])).cell _ _ (get_ints hi (by omega)))) ?_
            refine K.DW.det rfl (fun vs => K.e_indexAddr sl61 rfl rfl (by omega) (by omega)) ?_
            refine K.DW.det rfl (fun vs => K.e_load Tryz.isAgg9 rfl (wsv_get (hk.w i y hy).2 (by omega))) ?_
            refine K.DW.det rfl (fun vs => K.e_indexAddr sl61 rfl rfl (by omega) (by omega)) ?_
            refine K.DW.fin0 rfl (fun vs => ?_)
            refine K.GL.keep [0, 1, 2, 6, 7, 8, 9, 12, 13, 14, 15, 16, 17, 18, 19, 20, 21, 22, 23, 24, 25, 26, 27, 28, 29, 30, 31, 32, 33, 34, 35, 36, 37, 38, 39, 40, 41, 42, 43, 44, 45, 46, 47, 48, 49, 50, 51, 52, 53, 54, 55, 56, 57, 58, 59, 60, 61, 62, 63, 64, 65, 66, 67, 68, 69, 70, 71, 72, 73, 74, 75, 76, 77, 78, 79, 80, 81, 82, 83, 84, 85, 86, 87, 88, 89, 90, 91, 92, 93, 94, 95, 96, 97, 98, 99, 100, 101, 102, 103, 104, 105, 106, 107, 108, 109, 110, 111, 112, 113, 114, 115, 116, 117, 118, 119, 120, 121, 122, 123, 124, 125, 126, 127, 128, 129, 130, 131] rfl ?_
            clear vs
            refine K.GL.storeP (cs' := ksv ((g.s.keptL ks x).set i y)) rfl rfl rfl Tryz.sizeOf9 rfl rfl (get_set_sec (by omega) (by omega)) ?_
            refine K.GL.nil ?_
            refine K.GQ.go ?_
            refine K.GC.drawn 9 [[], [0], [0, 1], [0, 1, 2], [], [], [4, 5], [4, 5, 6], [0, 1, 2, 3, 4, 5, 6, 7], [0, 1, 2, 3, 4, 5, 6, 7, 8]] [[], [0], [1], [2], [], [], [4, 5], [6], [3, 7]] [0, 1, 2, 6, 7, 8, 9, 12, 13, 14, 15, 16, 17, 18, 19, 20, 21, 22, 23, 24, 25, 26, 27, 28, 29, 30, 31, 32, 33, 34, 35, 36, 37, 38, 39, 40, 41, 42, 43, 44, 45, 46, 56, 57, 58, 59, 60, 61, 62, 63, 64, 65, 66, 67, 68, 69, 70, 71, 72, 73, 74, 75, 76, 77, 78, 79, 80, 81, 82, 83, 84, 85, 86, 87, 88, 89, 90, 91, 92, 93, 94, 95, 96, 97, 98, 99, 100, 101, 102, 103, 104, 105, 106, 107, 108, 109, 110, 111, 112, 113, 114, 115, 116, 117, 118, 119, 120, 121, 122, 123, 124, 125, 126, 127, 128, 129, 130, 131] (by kernel_rfl) (by kernel_rfl) rfl ?_
            refine K.DW.det rfl (fun vs => K.e_move rfl) ?_
            refine K.DW.det rfl (fun vs => K.e_nilCheck rfl) ?_
            refine K.DW.det rfl (fun vs => K.e_fieldAddr fo63_2 rfl) ?_
            first | refine K.DW.det rfl (fun vs => K.e_load Tryz.isAgg33 rfl rfl) ?_ | refine K.DW.det rfl (fun vs => K.e_load0 Tryz.isAgg33 rfl (by assumption)) ?_
            refine K.DW.det rfl (fun vs => K.e_move rfl) ?_
            refine K.DW.det rfl (fun vs => K.e_move rfl) ?_
            refine K.DW.det rfl (fun vs => K.e_indexAddrB sl51 rfl rfl hbase (by omega) (by omega)) ?_
            refine K.DW.det rfl (fun vs => K.e_loadw Tryz.isAgg3 rfl (fun w hT => (hT.sl_row (k := 1) (n := g.s.list.length) HasW.mem (by omega) (by simp [ints])).cell _ _ (get_ints hi (by omega)))) ?_
            refine K.DW.det rfl (fun vs => K.e_indexAddr sl33 rfl rfl (by omega) (by omega)) ?_
            refine K.DW.fin0 rfl (fun vs => ?_)
            refine K.GL.keep [0, 1, 2, 6, 7, 8, 9, 12, 13, 14, 15, 16, 17, 18, 19, 20, 21, 22, 23, 24, 25, 26, 27, 28, 29, 30, 31, 32, 33, 34, 35, 36, 37, 38, 39, 40, 41, 42, 43, 44, 45, 46, 47, 48, 49, 50, 51, 52, 53, 54, 55, 56, 57, 58, 59, 60, 61, 62, 63, 64, 65, 66, 67, 68, 69, 70, 71, 72, 73, 74, 75, 76, 77, 78, 79, 80, 81, 82, 83, 84, 85, 86, 87, 88, 89, 90, 91, 92, 93, 94, 95, 96, 97, 98, 99, 100, 101, 102, 103, 104, 105, 106, 107, 108, 109, 110, 111, 112, 113, 114, 115, 116, 117, 118, 119, 120, 121, 122, 123, 124, 125, 126, 127, 128, 129, 130, 131] rfl ?_
            clear vs
            refine K.GL.storeP (cs' := lov (g.s.bx (x + 1))) rfl rfl rfl Tryz.sizeOf4 rfl rfl (lov_bx hi hin (by omega)) ?_
            refine K.GL.nil ?_
            refine K.GQ.block_normal ?_
            refine K.GQ.go ?_
            refine K.GC.region ?_
            refine K.GL.det (K.e_move rfl) rfl ?_
            first | refine K.GL.det (K.e_add rfl rfl ⟨by omega, by omega⟩) rfl ?_ | refine K.GL.det (K.e_addw rfl rfl) rfl ?_
            refine K.GL.det (K.e_assign rfl) rfl ?_
            refine K.GL.nil ?_
            exact K.GQ.round (x + 1) (by omega) (by omega) (by (repeat refine ⟨rfl, ?_⟩); exact trivial) (by first | (rw [keptL_yes hi (get_true (by assumption)) hy]; exact K.Sub.refl _) | (rw [keptL_no (get_false (by assumption))]; exact K.Sub.refl _) | (rw [keptL_no (get_out (by omega))]; exact K.Sub.refl _))
        · first
          | exact absurd h3 (by decide)
          | try replace h3 := of_decide_eq_false h3
            refine K.GC.skip ?_
            refine K.GQ.go ?_
            refine K.GC.drawn 9 [[], [0], [0, 1], [0, 1, 2], [], [], [4, 5], [4, 5, 6], [0, 1, 2, 3, 4, 5, 6, 7], [0, 1, 2, 3, 4, 5, 6, 7, 8]] [[], [0], [1], [2], [], [], [4, 5], [6], [3, 7]] [0, 1, 2, 6, 7, 8, 9, 12, 13, 14, 15, 16, 17, 18, 19, 20, 21, 22, 23, 24, 25, 26, 27, 28, 29, 30, 31, 32, 33, 34, 35, 36, 37, 38, 39, 40, 41, 42, 43, 44, 45, 46, 56, 57, 58, 59, 60, 61, 62, 63, 64, 65, 66, 67, 68, 69, 70, 71, 72, 73, 74, 75, 76, 77, 78, 79, 80, 81, 82, 83, 84, 85, 86, 87, 88, 89, 90, 91, 92, 93, 94, 95, 96, 97, 98, 99, 100, 101, 102, 103, 104, 105, 106, 107, 108, 109, 110, 111, 112, 113, 114, 115, 116, 117, 118, 119, 120, 121, 122, 123, 124, 125, 126, 127, 128, 129, 130, 131] (by kernel_rfl) (by kernel_rfl) rfl ?_
            refine K.DW.det rfl (fun vs => K.e_move rfl) ?_
            refine K.DW.det rfl (fun vs => K.e_nilCheck rfl) ?_
            refine K.DW.det rfl (fun vs => K.e_fieldAddr fo63_2 rfl) ?_
            first | refine K.DW.det rfl (fun vs => K.e_load Tryz.isAgg33 rfl rfl) ?_ | refine K.DW.det rfl (fun vs => K.e_load0 Tryz.isAgg33 rfl (by assumption)) ?_
            refine K.DW.det rfl (fun vs => K.e_move rfl) ?_
            refine K.DW.det rfl (fun vs => K.e_move rfl) ?_
            refine K.DW.det rfl (fun vs => K.e_indexAddrB sl51 rfl rfl hbase (by omega) (by omega)) ?_
            refine K.DW.det rfl (fun vs => K.e_loadw Tryz.isAgg3 rfl (fun w hT => (hT.sl_row (k := 1) (n := g.s.list.length) HasW.mem (by omega) (by simp [ints])).cell _ _ (get_ints hi (by omega)))) ?_
            refine K.DW.det rfl (fun vs => K.e_indexAddr sl33 rfl rfl (by omega) (by omega)) ?_
            refine K.DW.fin0 rfl (fun vs => ?_)
            refine K.GL.keep [0, 1, 2, 6, 7, 8, 9, 12, 13, 14, 15, 16, 17, 18, 19, 20, 21, 22, 23, 24, 25, 26, 27, 28, 29, 30, 31, 32, 33, 34, 35, 36, 37, 38, 39, 40, 41, 42, 43, 44, 45, 46, 47, 48, 49, 50, 51, 52, 53, 54, 55, 56, 57, 58, 59, 60, 61, 62, 63, 64, 65, 66, 67, 68, 69, 70, 71, 72, 73, 74, 75, 76, 77, 78, 79, 80, 81, 82, 83, 84, 85, 86, 87, 88, 89, 90, 91, 92, 93, 94, 95, 96, 97, 98, 99, 100, 101, 102, 103, 104, 105, 106, 107, 108, 109, 110, 111, 112, 113, 114, 115, 116, 117, 118, 119, 120, 121, 122, 123, 124, 125, 126, 127, 128, 129, 130, 131] rfl ?_
            clear vs
            refine K.GL.storeP (cs' := lov (g.s.bx (x + 1))) rfl rfl rfl Tryz.sizeOf4 rfl rfl (lov_bx hi hin (by omega)) ?_
            refine K.GL.nil ?_
            refine K.GQ.block_normal ?_
            refine K.GQ.go ?_
            refine K.GC.region ?_
            refine K.GL.det (K.e_move rfl) rfl ?_
            first | refine K.GL.det (K.e_add rfl rfl ⟨by omega, by omega⟩) rfl ?_ | refine K.GL.det (K.e_addw rfl rfl) rfl ?_
            refine K.GL.det (K.e_assign rfl) rfl ?_
            refine K.GL.nil ?_
            exact K.GQ.round (x + 1) (by omega) (by omega) (by (repeat refine ⟨rfl, ?_⟩); exact trivial) (by first | (rw [keptL_yes hi (get_true (by assumption)) hy]; exact K.Sub.refl _) | (rw [keptL_no (get_false (by assumption))]; exact K.Sub.refl _) | (rw [keptL_no (get_out (by omega))]; exact K.Sub.refl _))
  · first
    | exact absurd h1 (by decide)
    | try replace h1 := of_decide_eq_false h1
      refine K.GC.exit ?_
      refine K.GQ.then_exit ?_
      refine K.GQ.then_exit ?_
      refine K.GQ.block_hit ?_
      refine K.GQ.go ?_
      refine K.GC.seq ?_
      refine K.GC.seq ?_
      obtain rfl : x = g.s.list.length := by omega
      refine K.GC.region ?_
      refine K.GL.det (K.e_assign rfl) rfl ?_
      refine K.GL.nil ?_
      refine K.GQ.go ?_
      refine K.GC.block ?_
      refine K.GC.loopk (α := Nat) [0, 1, 2, 6, 126, 127, 128, 129, 130, 131] rfl (fun x => [(8, .int .i64 (x : Int))]) (fun x => [cl r 63 g.cells, cl g.kb 9 (ksv (g.s.hurts ks (hs.take x))), cl g.wb 9 (wsv g.W), cl g.lb 4 (lov (g.s.bx g.s.list.length)), row a11 c11 1 3 (ints g.s.list)]) (fun x => x ≤ hs.length) (fun x => (hs.length - x)) 0 (by omega) (by (repeat refine ⟨rfl, ?_⟩); exact trivial) (K.Sub.refl _) (fun x hI => ?_)
      refine K.GC.seq ?_
      refine K.GC.seq ?_
      refine K.GC.region ?_
      refine K.GL.det (K.e_move rfl) rfl ?_
      refine K.GL.det (K.e_move rfl) rfl ?_
      refine K.GL.det (K.e_len Tryz.underlying34 rfl) rfl ?_
      first | refine K.GL.det ((K.e_lt rfl rfl).yes (by omega)) rfl ?_ | refine K.GL.det ((K.e_lt rfl rfl).no (by omega)) rfl ?_ | refine K.GL.det (K.e_lt rfl rfl) rfl ?_
      refine K.GL.nil ?_
      refine K.GQ.go ?_
      refine K.GC.condB rfl (fun h4 => ?_) (fun h4 => ?_)
      · first
        | exact absurd h4 (by decide)
        | try replace h4 := of_decide_eq_true h4
          refine K.GC.skip ?_
          refine K.GQ.go ?_
          refine K.GC.seq ?_
          refine K.GC.block ?_
          refine K.GC.seq ?_
          obtain ⟨h, hh⟩ : ∃ h, hs[x]? = some h := get_ex (by omega)
          have hbh := hb h (List.mem_of_getElem? hh)
          refine K.GC.region ?_
          refine K.GL.det (K.e_move rfl) rfl ?_
          refine K.GL.det (K.e_move rfl) rfl ?_
          refine K.GL.det (K.e_indexAddrS sl34 rfl rfl hSh (by omega) (by omega)) rfl ?_
          refine K.GL.det (K.e_loadsw Tryz.isAgg73 Tryz.sizeOf73 rfl (fun w hT => (hSh.stay hT (fun x hx => by simp only [List.mem_singleton] at hx; subst hx; exact hfh (by omega))).item encH_len hh) rfl) rfl ?_
          refine K.GL.alloc Tryz.zeroValue73 rfl rfl (fun b9 => ?_)
          refine K.GL.store rfl rfl rfl Tryz.sizeOf73 rfl rfl ?_
          refine K.GL.nil ?_
          refine K.GQ.go ?_
          refine K.GC.seq ?_
          refine K.GC.region ?_
          refine K.GL.det (K.e_fieldAddr fo73_0 rfl) rfl ?_
          first | refine K.GL.det (K.e_load Tryz.isAgg3 rfl rfl) rfl ?_ | refine K.GL.det (K.e_load0 Tryz.isAgg3 rfl (by assumption)) rfl ?_
          first | refine K.GL.det ((K.e_ge rfl rfl).yes (by omega)) rfl ?_ | refine K.GL.det ((K.e_ge rfl rfl).no (by omega)) rfl ?_ | refine K.GL.det (K.e_ge rfl rfl) rfl ?_
          refine K.GL.det (K.e_move rfl) rfl ?_
          first | refine K.GL.splitB 69 rfl (fun h5 => ?_) (fun h5 => ?_) | skip
          all_goals first | exact absurd h5 (by decide) | replace h5 := of_decide_eq_true h5 | replace h5 := of_decide_eq_false h5 | skip
          all_goals
            first | (refine K.GL.want 69 rfl rfl rfl ?_; first | refine K.GL.det (K.e_fieldAddr fo73_0 rfl) rfl ?_) | refine K.GL.skip 69 rfl rfl rfl rfl ?_ | refine K.GL.skipU 69 rfl rfl rfl rfl ?_
            first | (refine K.GL.want 69 rfl rfl rfl ?_; first | refine K.GL.det (K.e_load Tryz.isAgg3 rfl rfl) rfl ?_ | refine K.GL.det (K.e_load0 Tryz.isAgg3 rfl (by assumption)) rfl ?_) | refine K.GL.skip 69 rfl rfl rfl rfl ?_ | refine K.GL.skipU 69 rfl rfl rfl rfl ?_
            first | (refine K.GL.want 69 rfl rfl rfl ?_; first | refine K.GL.det (K.e_move rfl) rfl ?_) | refine K.GL.skip 69 rfl rfl rfl rfl ?_ | refine K.GL.skipU 69 rfl rfl rfl rfl ?_
            first | (refine K.GL.want 69 rfl rfl rfl ?_; first | refine K.GL.det (K.e_len Tryz.underlying51 rfl) rfl ?_) | refine K.GL.skip 69 rfl rfl rfl rfl ?_ | refine K.GL.skipU 69 rfl rfl rfl rfl ?_
            first | (refine K.GL.want 69 rfl rfl rfl ?_; first | refine K.GL.det ((K.e_lt rfl rfl).yes (by omega)) rfl ?_ | refine K.GL.det ((K.e_lt rfl rfl).no (by omega)) rfl ?_ | refine K.GL.det (K.e_lt rfl rfl) rfl ?_) | refine K.GL.skip 69 rfl rfl rfl rfl ?_ | refine K.GL.skipU 69 rfl rfl rfl rfl ?_
            first | refine K.GL.det (K.e_pick_t rfl rfl) rfl ?_ | refine K.GL.det (K.e_pick_f rfl rfl) rfl ?_
            refine K.GL.det (K.e_move rfl) rfl ?_
            first | refine K.GL.splitB 76 rfl (fun h6 => ?_) (fun h6 => ?_) | skip
            all_goals first | exact absurd h6 (by decide) | replace h6 := of_decide_eq_true h6 | replace h6 := of_decide_eq_false h6 | skip
            all_goals
              first | (refine K.GL.want 76 rfl rfl rfl ?_; first | refine K.GL.det (K.e_fieldAddr fo73_0 rfl) rfl ?_) | refine K.GL.skip 76 rfl rfl rfl rfl ?_ | refine K.GL.skipU 76 rfl rfl rfl rfl ?_
              first | (refine K.GL.want 76 rfl rfl rfl ?_; first | refine K.GL.det (K.e_load Tryz.isAgg3 rfl rfl) rfl ?_ | refine K.GL.det (K.e_load0 Tryz.isAgg3 rfl (by assumption)) rfl ?_) | refine K.GL.skip 76 rfl rfl rfl rfl ?_ | refine K.GL.skipU 76 rfl rfl rfl rfl ?_
              first | (refine K.GL.want 76 rfl rfl rfl ?_; first | refine K.GL.det (K.e_move rfl) rfl ?_) | refine K.GL.skip 76 rfl rfl rfl rfl ?_ | refine K.GL.skipU 76 rfl rfl rfl rfl ?_
              first | (refine K.GL.want 76 rfl rfl rfl ?_; first | refine K.GL.det (K.e_len Tryz.underlying33 rfl) rfl ?_) | refine K.GL.skip 76 rfl rfl rfl rfl ?_ | refine K.GL.skipU 76 rfl rfl rfl rfl ?_
              first | (refine K.GL.want 76 rfl rfl rfl ?_; first | refine K.GL.det ((K.e_lt rfl rfl).yes (by omega)) rfl ?_ | refine K.GL.det ((K.e_lt rfl rfl).no (by omega)) rfl ?_ | refine K.GL.det (K.e_lt rfl rfl) rfl ?_) | refine K.GL.skip 76 rfl rfl rfl rfl ?_ | refine K.GL.skipU 76 rfl rfl rfl rfl ?_
              first | refine K.GL.det (K.e_pick_t rfl rfl) rfl ?_ | refine K.GL.det (K.e_pick_f rfl rfl) rfl ?_
              refine K.GL.det (K.e_move rfl) rfl ?_
              first | refine K.GL.splitB 83 rfl (fun h7 => ?_) (fun h7 => ?_) | skip
              all_goals first | exact absurd h7 (by decide) | replace h7 := of_decide_eq_true h7 | replace h7 := of_decide_eq_false h7 | skip
              all_goals
                first | (refine K.GL.want 83 rfl rfl rfl ?_; first | refine K.GL.det (K.e_move rfl) rfl ?_) | refine K.GL.skip 83 rfl rfl rfl rfl ?_ | refine K.GL.skipU 83 rfl rfl rfl rfl ?_
                first | (refine K.GL.want 83 rfl rfl rfl ?_; first | refine K.GL.det (K.e_fieldAddr fo73_0 rfl) rfl ?_) | refine K.GL.skip 83 rfl rfl rfl rfl ?_ | refine K.GL.skipU 83 rfl rfl rfl rfl ?_
                first | (refine K.GL.want 83 rfl rfl rfl ?_; first | refine K.GL.det (K.e_load Tryz.isAgg3 rfl rfl) rfl ?_ | refine K.GL.det (K.e_load0 Tryz.isAgg3 rfl (by assumption)) rfl ?_) | refine K.GL.skip 83 rfl rfl rfl rfl ?_ | refine K.GL.skipU 83 rfl rfl rfl rfl ?_
                first | (refine K.GL.want 83 rfl rfl rfl ?_; first | refine K.GL.det (K.e_indexAddrS sl33 rfl rfl hSk (by omega) (by omega)) rfl ?_) | refine K.GL.skip 83 rfl rfl rfl rfl ?_ | refine K.GL.skipU 83 rfl rfl rfl rfl ?_
                first | (refine K.GL.want 83 rfl rfl rfl ?_; first | refine K.GL.det (K.e_loadw Tryz.isAgg4 rfl (fun w hT => (hSk.stay hT (fun x hx => by simp only [List.mem_singleton] at hx; subst hx; exact hfk (by omega))).cell _ _ (get_bool (x := h.which.toNat) (by omega) (by omega)))) rfl ?_) | refine K.GL.skip 83 rfl rfl rfl rfl ?_ | refine K.GL.skipU 83 rfl rfl rfl rfl ?_
                first | refine K.GL.det (K.e_pick_t rfl rfl) rfl ?_ | refine K.GL.det (K.e_pick_f rfl rfl) rfl ?_
                refine K.GL.det (K.e_move rfl) rfl ?_
                first | refine K.GL.splitB 90 rfl (fun h8 => ?_) (fun h8 => ?_) | skip
                all_goals first | exact absurd h8 (by decide) | replace h8 := of_decide_eq_true h8 | replace h8 := of_decide_eq_false h8 | skip
                all_goals
                  first | (refine K.GL.want 90 rfl rfl rfl ?_; first | refine K.GL.det (K.e_fieldAddr fo73_1 rfl) rfl ?_) | refine K.GL.skip 90 rfl rfl rfl rfl ?_ | refine K.GL.skipU 90 rfl rfl rfl rfl ?_
                  first | (refine K.GL.want 90 rfl rfl rfl ?_; first | refine K.GL.det (K.e_load Tryz.isAgg3 rfl rfl) rfl ?_ | refine K.GL.det (K.e_load0 Tryz.isAgg3 rfl (by assumption)) rfl ?_) | refine K.GL.skip 90 rfl rfl rfl rfl ?_ | refine K.GL.skipU 90 rfl rfl rfl rfl ?_
                  first | (refine K.GL.want 90 rfl rfl rfl ?_; first | refine K.GL.det ((K.e_ge rfl rfl).yes (by omega)) rfl ?_ | refine K.GL.det ((K.e_ge rfl rfl).no (by omega)) rfl ?_ | refine K.GL.det (K.e_ge rfl rfl) rfl ?_) | refine K.GL.skip 90 rfl rfl rfl rfl ?_ | refine K.GL.skipU 90 rfl rfl rfl rfl ?_
                  first | refine K.GL.det (K.e_pick_t rfl rfl) rfl ?_ | refine K.GL.det (K.e_pick_f rfl rfl) rfl ?_
                  refine K.GL.det (K.e_move rfl) rfl ?_
                  first | refine K.GL.splitB 95 rfl (fun h9 => ?_) (fun h9 => ?_) | skip
                  all_goals first | exact absurd h9 (by decide) | replace h9 := of_decide_eq_true h9 | replace h9 := of_decide_eq_false h9 | skip
                  all_goals
                    first | (refine K.GL.want 95 rfl rfl rfl ?_; first | refine K.GL.det (K.e_fieldAddr fo73_1 rfl) rfl ?_) | refine K.GL.skip 95 rfl rfl rfl rfl ?_ | refine K.GL.skipU 95 rfl rfl rfl rfl ?_
                    first | (refine K.GL.want 95 rfl rfl rfl ?_; first | refine K.GL.det (K.e_load Tryz.isAgg3 rfl rfl) rfl ?_ | refine K.GL.det (K.e_load0 Tryz.isAgg3 rfl (by assumption)) rfl ?_) | refine K.GL.skip 95 rfl rfl rfl rfl ?_ | refine K.GL.skipU 95 rfl rfl rfl rfl ?_
                    first | (refine K.GL.want 95 rfl rfl rfl ?_; first | refine K.GL.det ((K.e_lt rfl rfl).yes (by omega)) rfl ?_ | refine K.GL.det ((K.e_lt rfl rfl).no (by omega)) rfl ?_ | refine K.GL.det (K.e_lt rfl rfl) rfl ?_) | refine K.GL.skip 95 rfl rfl rfl rfl ?_ | refine K.GL.skipU 95 rfl rfl rfl rfl ?_
                    first | refine K.GL.det (K.e_pick_t rfl rfl) rfl ?_ | refine K.GL.det (K.e_pick_f rfl rfl) rfl ?_
                    refine K.GL.nil ?_
                    refine K.GQ.go ?_
                    refine K.GC.condB rfl (fun h10 => ?_) (fun h10 => ?_)
                    · first
                      | exact absurd h10 (by decide)
                      | try replace h10 := of_decide_eq_true h10
                        obtain ⟨i, hi⟩ : ∃ i, g.s.list[h.which.toNat]? = some i := get_ex (by omega)
                        have hin := (DS.list_mem.1 (List.mem_of_getElem? hi)).1
                        have hkpl := hurts_length g.s ks (hs.take x)
                        obtain ⟨x0, hx0⟩ : ∃ x0, (g.s.hurts ks (hs.take x))[i]? = some x0 := get_ex (by omega)
                        have hat0 : ((h.at_.toNat : Nat) : Int) = h.at_ := Int.toNat_of_nonneg (by omega)
                        refine K.GC.drawn 26 [[], [0], [0, 1], [0, 1, 2], [], [], [5], [4, 5, 6], [4, 5, 6, 7], [], [9], [9, 10], [9, 10, 11], [], [], [14], [13, 14, 15], [13, 14, 15, 16], [9, 10, 11, 12, 13, 14, 15, 16, 17], [9, 10, 11, 12, 13, 14, 15, 16, 17, 18], [], [20], [], [22], [9, 10, 11, 12, 13, 14, 15, 16, 17, 18, 19, 20, 21, 22, 23], [0, 1, 2, 3, 4, 5, 6, 7, 8, 9, 10, 11, 12, 13, 14, 15, 16, 17, 18, 19, 20, 21, 22, 23, 24], [0, 1, 2, 3, 4, 5, 6, 7, 8, 9, 10, 11, 12, 13, 14, 15, 16, 17, 18, 19, 20, 21, 22, 23, 24, 25]] [[], [0], [1], [2], [], [], [5], [4, 6], [7], [], [9], [10], [11], [], [], [14], [13, 15], [16], [12, 17], [18], [], [20], [], [22], [19, 21, 23], [3, 8]] [0, 1, 2, 6, 8, 9, 56, 57, 58, 59, 60, 61, 62, 63, 64, 65, 66, 67, 68, 69, 70, 71, 72, 73, 74, 75, 76, 77, 78, 79, 80, 81, 82, 83, 84, 85, 86, 87, 88, 89, 90, 91, 92, 93, 94, 95, 96, 97, 98, 99, 126, 127, 128, 129, 130, 131] (by kernel_rfl) (by kernel_rfl) rfl ?_
                        refine K.DW.det rfl (fun vs => K.e_move rfl) ?_
                        refine K.DW.det rfl (fun vs => K.e_nilCheck rfl) ?_
                        refine K.DW.det rfl (fun vs => K.e_fieldAddr fo63_0 rfl) ?_
                        first | refine K.DW.det rfl (fun vs => K.e_load Tryz.isAgg61 rfl rfl) ?_ | refine K.DW.det rfl (fun vs => K.e_load0 Tryz.isAgg61 rfl (by assumption)) ?_
                        refine K.DW.det rfl (fun vs => K.e_move rfl) ?_
                        refine K.DW.det rfl (fun vs => K.e_fieldAddr fo73_0 rfl) ?_
                        first | refine K.DW.det rfl (fun vs => K.e_load Tryz.isAgg3 rfl rfl) ?_ | refine K.DW.det rfl (fun vs => K.e_load0 Tryz.isAgg3 rfl (by assumption)) ?_
                        refine K.DW.det rfl (fun vs => K.e_indexAddrB sl51 rfl rfl hbase (by omega) (by omega)) ?_
                        refine K.DW.det rfl (fun vs => K.e_loadw Tryz.isAgg3 rfl (fun w hT => (hT.sl_row (k := 1) (n := g.s.list.length) HasW.mem (by omega) (by simp [ints])).cell _ _ (get_ints hi (by omega)))) ?_
                        refine K.DW.det rfl (fun vs => K.e_move rfl) ?_
                        refine K.DW.det rfl (fun vs => K.e_nilCheck rfl) ?_
                        refine K.DW.det rfl (fun vs => K.e_fieldAddr fo63_0 rfl) ?_
                        first | refine K.DW.det rfl (fun vs => K.e_load Tryz.isAgg61 rfl rfl) ?_ | refine K.DW.det rfl (fun vs => K.e_load0 Tryz.isAgg61 rfl (by assumption)) ?_
                        refine K.DW.det rfl (fun vs => K.e_move rfl) ?_
                        refine K.DW.det rfl (fun vs => K.e_fieldAddr fo73_0 rfl) ?_
                        first | refine K.DW.det rfl (fun vs => K.e_load Tryz.isAgg3 rfl rfl) ?_ | refine K.DW.det rfl (fun vs => K.e_load0 Tryz.isAgg3 rfl (by assumption)) ?_
                        refine K.DW.det rfl (fun vs => K.e_indexAddrB sl51 rfl rfl hbase (by omega) (by omega)) ?_
                        refine K.DW.det rfl (fun vs => K.e_loadw Tryz.isAgg3 rfl (fun w hT => (hT.sl_row (k := 1) (n := g.s.list.length) HasW.mem (by omega) (by simp [ints])).cell _ _ (get_ints hi (by omega)))) ?_
                        refine K.DW.det rfl (fun vs => K.e_indexAddr sl61 rfl rfl (by omega) (by omega)) ?_
                        refine K.DW.det rfl (fun vs => K.e_load Tryz.isAgg9 rfl (ksv_get hx0 (by omega))) ?_
                        refine K.DW.det rfl (fun vs => K.e_fieldAddr fo73_1 rfl) ?_
                        first | refine K.DW.det rfl (fun vs => K.e_load Tryz.isAgg3 rfl rfl) ?_ | refine K.DW.det rfl (fun vs => K.e_load0 Tryz.isAgg3 rfl (by assumption)) ?_
                        refine K.DW.det rfl (fun vs => K.e_fieldAddr fo73_2 rfl) ?_
                        first | refine K.DW.det rfl (fun vs => K.e_load Tryz.isAgg71 rfl rfl) ?_ | refine K.DW.det rfl (fun vs => K.e_load0 Tryz.isAgg71 rfl (by assumption)) ?_
                        refine K.DW.det rfl (fun vs => K.e_call1 Tryz.call36 (vs := [K.str x0.1, .int .i64 h.at_, .int .u32 (h.bits : Int)]) rfl (fun w hT => by have h2 := turned_con (x0 := x0) (a0 := h.at_.toNat) (w0 := h.bits) (by omega) hbh (w := w); rw [hat0] at h2; exact h2)) ?_
                        refine K.DW.det rfl (fun vs => K.e_indexAddr sl61 rfl rfl (by omega) (by omega)) ?_
                        refine K.DW.fin0 rfl (fun vs => ?_)
                        refine K.GL.keep [0, 1, 2, 6, 8, 9, 56, 57, 58, 59, 60, 61, 62, 63, 64, 65, 66, 67, 68, 69, 70, 71, 72, 73, 74, 75, 76, 77, 78, 79, 80, 81, 82, 83, 84, 85, 86, 87, 88, 89, 90, 91, 92, 93, 94, 95, 96, 97, 98, 99, 100, 101, 102, 103, 104, 105, 106, 107, 108, 109, 110, 111, 112, 113, 114, 115, 116, 117, 118, 119, 120, 121, 122, 123, 124, 125, 126, 127, 128, 129, 130, 131] rfl ?_
                        clear vs
                        refine K.GL.storeP (cs' := ksv ((g.s.hurts ks (hs.take x)).set i (turnS x0 h.at_.toNat h.bits))) rfl rfl rfl Tryz.sizeOf9 rfl rfl (get_set_sec (by omega) (by omega)) ?_
                        refine K.GL.nil ?_
                        refine K.GQ.block_normal ?_
                        refine K.GQ.go ?_
                        refine K.GC.region ?_
                        refine K.GL.det (K.e_move rfl) rfl ?_
                        first | refine K.GL.det (K.e_add rfl rfl ⟨by omega, by omega⟩) rfl ?_ | refine K.GL.det (K.e_addw rfl rfl) rfl ?_
                        refine K.GL.det (K.e_assign rfl) rfl ?_
                        refine K.GL.nil ?_
                        exact K.GQ.round (x + 1) (by omega) (by omega) (by (repeat refine ⟨rfl, ?_⟩); exact trivial) (by
                          rw [hurts_next g.s ks hh]
                          first
                            | (rw [hurt1_yes (l := g.s.list) (ks := ks) (h := h) (i := i) (x := x0) ⟨by omega, by omega, by omega, get_true (by assumption), by omega, by omega⟩ hi hx0]; exact Sub.tail _ _)
                            | (rw [hurt1_no (l := g.s.list) (ks := ks) (h := h) (fun hc => by have hc' := hc; unfold hits at hc'; omega)]; exact K.Sub.tail _ _)
                            | (rw [hurt1_no (l := g.s.list) (ks := ks) (h := h) (fun hc => absurd hc.2.2.2.1 (get_false (by assumption)))]; exact K.Sub.tail _ _))
                    · first
                      | exact absurd h10 (by decide)
                      | try replace h10 := of_decide_eq_false h10
                        refine K.GC.skip ?_
                        refine K.GQ.block_normal ?_
                        refine K.GQ.go ?_
                        refine K.GC.region ?_
                        refine K.GL.det (K.e_move rfl) rfl ?_
                        first | refine K.GL.det (K.e_add rfl rfl ⟨by omega, by omega⟩) rfl ?_ | refine K.GL.det (K.e_addw rfl rfl) rfl ?_
                        refine K.GL.det (K.e_assign rfl) rfl ?_
                        refine K.GL.nil ?_
                        exact K.GQ.round (x + 1) (by omega) (by omega) (by (repeat refine ⟨rfl, ?_⟩); exact trivial) (by
                          rw [hurts_next g.s ks hh]
                          first
                            | (rw [hurt1_yes (l := g.s.list) (ks := ks) (h := h) (i := i) (x := x0) ⟨by omega, by omega, by omega, get_true (by assumption), by omega, by omega⟩ hi hx0]; exact Sub.tail _ _)
                            | (rw [hurt1_no (l := g.s.list) (ks := ks) (h := h) (fun hc => by have hc' := hc; unfold hits at hc'; omega)]; exact K.Sub.tail _ _)
                            | (rw [hurt1_no (l := g.s.list) (ks := ks) (h := h) (fun hc => absurd hc.2.2.2.1 (get_false (by assumption)))]; exact K.Sub.tail _ _))
      · first
        | exact absurd h4 (by decide)
        | try replace h4 := of_decide_eq_false h4
          refine K.GC.exit ?_
          refine K.GQ.then_exit ?_
          refine K.GQ.then_exit ?_
          refine K.GQ.block_hit ?_
          refine K.GQ.go ?_
          refine K.GC.seq ?_
          refine K.GC.region ?_
          refine K.GL.det (K.e_move rfl) rfl ?_
          refine K.GL.det (K.e_nilCheck rfl) rfl ?_
          refine K.GL.det (K.e_fieldAddr fo63_3 rfl) rfl ?_
          refine K.GL.store rfl rfl rfl Tryz.sizeOf4 rfl rfl ?_
          refine K.GL.nil ?_
          refine K.GQ.go ?_
          refine K.GC.region ?_
          refine K.GL.det (K.e_move rfl) rfl ?_
          refine K.GL.det (K.e_nilCheck rfl) rfl ?_
          refine K.GL.det (K.e_fieldAddr fo63_6 rfl) rfl ?_
          refine K.GL.store rfl rfl rfl Tryz.sizeOf4 rfl rfl ?_
          refine K.GL.nil ?_
          refine K.GQ.end_ret ?_
          refine K.GQ.ret0 Tryz.results13 (fun w hT => ?_)
          obtain rfl : x = hs.length := by omega
          rw [List.take_length] at hT
          have h2 := hT.sub (Sub.take (i := 0) rfl (Sub.take (i := 0) rfl (Sub.take (i := 0) rfl (Sub.take (i := 0) rfl (Sub.nil _)))))
          exact ⟨_, _, rfl, rb_ok hk ks hs, rfl, by rw [rb_R]; exact h2.one⟩
theorem lay63 : K.layout Tryz.prog 63 = some ([.slice none 0 0, .slice none 0 0, .slice none 0 0, .bool false, .int .i64 0, .int .i64 0, .bool false], [(0, 1), (1, 1), (2, 1), (3, 1), (4, 1), (5, 1), (6, 1)]) := by kernel_rfl
theorem mk33 : K.mkOf Tryz.prog 33 = some (4, [.bool false], 1) := by kernel_rfl
theorem mk61 : K.mkOf Tryz.prog 61 = some (9, [.string ⟨#[]⟩], 16) := by kernel_rfl
/- turntable/turntableref07.New -/
set_option maxHeartbeats 4000000 in
set_option maxRecDepth 100000 in
theorem rnew_con (n : Int) {w : World} :
    Calls Tryz.prog 7 #[.int .i64 n] w fun e w' => (¬ (1 ≤ n ∧ n ≤ 4096) ∧ e = .returned (.pointer none) ∧ Tr w [] w' []) ∨ ∃ r g, (1 ≤ n ∧ n ≤ 4096) ∧ e = .returned (.pointer (some ⟨r, 0, none⟩)) ∧ g.Ok ∧ g.s = DS.new n.toNat ∧ Tr w [] w' [RefR r g] := by
  refine K.enter0 (args := [_]) Tryz.func7 rfl Tryz.ntmps7 rfl ?_
  refine K.GC.seq ?_
  refine K.GC.region ?_
  refine K.GL.det (K.e_assign rfl) rfl ?_
  refine K.GL.nil ?_
  refine K.GQ.go ?_
  refine K.GC.seq ?_
  refine K.GC.seq ?_
  refine K.GC.region ?_
  refine K.GL.det (K.e_move rfl) rfl ?_
  first | refine K.GL.det ((K.e_lt rfl rfl).yes (by omega)) rfl ?_ | refine K.GL.det ((K.e_lt rfl rfl).no (by omega)) rfl ?_ | refine K.GL.det (K.e_lt rfl rfl) rfl ?_
  refine K.GL.det (K.e_move rfl) rfl ?_
  first | refine K.GL.splitB 7 rfl (fun h1 => ?_) (fun h1 => ?_) | skip
  all_goals first | exact absurd h1 (by decide) | replace h1 := of_decide_eq_true h1 | replace h1 := of_decide_eq_false h1 | skip
  all_goals
    first | (refine K.GL.want 7 rfl rfl rfl ?_; first | refine K.GL.det (K.e_move rfl) rfl ?_) | refine K.GL.skip 7 rfl rfl rfl rfl ?_ | refine K.GL.skipU 7 rfl rfl rfl rfl ?_
    first | (refine K.GL.want 7 rfl rfl rfl ?_; first | refine K.GL.det ((K.e_gt rfl rfl).yes (by omega)) rfl ?_ | refine K.GL.det ((K.e_gt rfl rfl).no (by omega)) rfl ?_ | refine K.GL.det (K.e_gt rfl rfl) rfl ?_) | refine K.GL.skip 7 rfl rfl rfl rfl ?_ | refine K.GL.skipU 7 rfl rfl rfl rfl ?_
    first | refine K.GL.det (K.e_pick_t rfl rfl) rfl ?_ | refine K.GL.det (K.e_pick_f rfl rfl) rfl ?_
    refine K.GL.nil ?_
    refine K.GQ.go ?_
    refine K.GC.condB rfl (fun h2 => ?_) (fun h2 => ?_)
    · first
      | exact absurd h2 (by decide)
      | try replace h2 := of_decide_eq_true h2
        refine K.GC.seq ?_
        refine K.GC.region ?_
        refine K.GL.det (K.e_assign rfl) rfl ?_
        refine K.GL.nil ?_
        refine K.GQ.go ?_
        refine K.GC.ret ?_
        refine K.GQ.then_ret ?_
        refine K.GQ.ret1 Tryz.results7 rfl (fun w hT => ?_)
        first
          | exact .inl ⟨by omega, rfl, hT.nil⟩
          | (obtain rfl : x = n.toNat := by omega
             exact .inr ⟨_, _, ⟨by omega, by omega⟩, rfl, rn_ok (by omega) (by omega), rfl, by rw [rn_R]; exact hT.one⟩)
    · first
      | exact absurd h2 (by decide)
      | try replace h2 := of_decide_eq_false h2
        refine K.GC.skip ?_
        refine K.GQ.go ?_
        refine K.GC.seq ?_
        refine K.GC.drawn 6 [[], [0], [], [2], [], [4], [0, 1, 2, 3, 4, 5], [0, 1, 2, 3, 4, 5, 6], [0, 1, 2, 3, 4, 5, 6, 7]] [[], [0], [], [2], [], [4]] [0, 2, 3, 4, 17, 18, 19, 20, 21, 22, 23, 24, 25, 26, 27, 28, 29, 30, 31, 32] (by kernel_rfl) (by kernel_rfl) rfl ?_
        refine K.DW.det rfl (fun vs => K.e_move rfl) ?_
        refine K.DW.evO (fun vs hf => K.e_make mk61 rfl rfl (by omega) (by omega) (by omega) (by omega)) ?_
        refine K.DW.det rfl (fun vs => K.e_move rfl) ?_
        refine K.DW.evO (fun vs hf => K.e_make mk61 rfl rfl (by omega) (by omega) (by omega) (by omega)) ?_
        refine K.DW.det rfl (fun vs => K.e_move rfl) ?_
        refine K.DW.evO (fun vs hf => K.e_make mk33 rfl rfl (by omega) (by omega) (by omega) (by omega)) ?_
        refine K.DW.fin (fun vs hf => ?_)
        refine K.GL.keep [0, 2, 3, 4, 12, 14, 16, 17, 18, 19, 20, 21, 22, 23, 24, 25, 26, 27, 28, 29, 30, 31, 32] rfl ?_
        obtain ⟨⟨b12, e12⟩, ⟨b14, e14⟩, ⟨b16, e16⟩, _⟩ := hf
        refine K.GL.own3 (F := []) e12 e14 e16 ?_
        rw [e12, e14, e16]
        refine K.GL.det (K.e_build lay63 rfl) rfl ?_
        refine K.GL.box rfl rfl rfl (fun b18 => ?_)
        refine K.GL.det (K.e_assign rfl) rfl ?_
        refine K.GL.nil ?_
        refine K.GQ.go ?_
        refine K.GC.seq ?_
        refine K.GC.seq ?_
        refine K.GC.region ?_
        refine K.GL.det (K.e_assign rfl) rfl ?_
        refine K.GL.nil ?_
        refine K.GQ.go ?_
        refine K.GC.block ?_
        refine K.GC.loopk (α := Nat) [0, 2, 3, 32] rfl (fun x => [(4, .int .i64 (x : Int))]) (fun x => [cl b18 63 [.slice (some ⟨b12, 0, none⟩) n.toNat n.toNat, .slice (some ⟨b14, 0, none⟩) n.toNat n.toNat, .slice (some ⟨b16, 0, none⟩) n.toNat n.toNat, .bool false, .int .i64 0, .int .i64 0, .bool false], cl b12 9 (knew n.toNat x), cl b14 9 (zeros [.string ⟨#[]⟩] n.toNat), cl b16 4 (zeros [.bool false] n.toNat)]) (fun x => x ≤ n.toNat) (fun x => (n.toNat - x)) 0 (by omega) (by (repeat refine ⟨rfl, ?_⟩); exact trivial) (by rw [knew_0]; exact Sub.refl _) (fun x hI => ?_)
        refine K.GC.seq ?_
        refine K.GC.seq ?_
        refine K.GC.region ?_
        refine K.GL.det (K.e_move rfl) rfl ?_
        refine K.GL.det (K.e_move rfl) rfl ?_
        first | refine K.GL.det ((K.e_lt rfl rfl).yes (by omega)) rfl ?_ | refine K.GL.det ((K.e_lt rfl rfl).no (by omega)) rfl ?_ | refine K.GL.det (K.e_lt rfl rfl) rfl ?_
        refine K.GL.nil ?_
        refine K.GQ.go ?_
        refine K.GC.condB rfl (fun h3 => ?_) (fun h3 => ?_)
        · first
          | exact absurd h3 (by decide)
          | try replace h3 := of_decide_eq_true h3
            refine K.GC.skip ?_
            refine K.GQ.go ?_
            refine K.GC.seq ?_
            refine K.GC.block ?_
            refine K.GC.drawn 8 [[], [0], [0, 1], [0, 1, 2], [], [], [5], [0, 1, 2, 3, 4, 5, 6], [0, 1, 2, 3, 4, 5, 6, 7]] [[], [0], [1], [2], [], [], [5], [3, 4]] [0, 2, 3, 4, 19, 20, 21, 22, 23, 32] (by kernel_rfl) (by kernel_rfl) rfl ?_
            refine K.DW.det rfl (fun vs => K.e_move rfl) ?_
            refine K.DW.det rfl (fun vs => K.e_nilCheck rfl) ?_
            refine K.DW.det rfl (fun vs => K.e_fieldAddr fo63_0 rfl) ?_
            first | refine K.DW.det rfl (fun vs => K.e_load Tryz.isAgg61 rfl rfl) ?_ | refine K.DW.det rfl (fun vs => K.e_load0 Tryz.isAgg61 rfl (by assumption)) ?_
            refine K.DW.det rfl (fun vs => K.e_move rfl) ?_
            refine K.DW.evO (fun vs hf => K.e_make mk32 rfl rfl (by omega) (by omega) (by omega) (by omega)) ?_
            refine K.DW.detO (fun vs hf => by
                  obtain ⟨⟨b2, e2⟩, _⟩ := hf
                  refine K.e_b2sw Tryz.underlying32 Tryz.underlying5 Tryz.underlying9 (a := some ⟨b2, 0, none⟩) (n := Int.toNat 64) (c := Int.toNat 64) (by rw [← e2]; rfl) (l := (secOf 0).1) (fun w hT => ?_)
                  have r1 := hT.ok _ (List.mem_of_getElem? (i := 0) rfl)
                  rw [e2] at r1
                  exact Sl.of_block (cs := bv (secOf 0).1) r1 rfl) ?_
            refine K.DW.det rfl (fun vs => K.e_indexAddr sl61 rfl rfl (by omega) (by omega)) ?_
            refine K.DW.fin (fun vs hf => ?_)
            refine K.GL.keep [0, 2, 3, 4, 19, 20, 21, 22, 23, 24, 25, 26, 27, 28, 29, 30, 31, 32] rfl ?_
            obtain ⟨⟨b29, e29⟩, _⟩ := hf
            refine K.GL.own1 (F := [cl b18 63 [.slice (some ⟨b12, 0, none⟩) n.toNat n.toNat, .slice (some ⟨b14, 0, none⟩) n.toNat n.toNat, .slice (some ⟨b16, 0, none⟩) n.toNat n.toNat, .bool false, .int .i64 0, .int .i64 0, .bool false], cl b12 9 (knew n.toNat x), cl b14 9 (zeros [.string ⟨#[]⟩] n.toNat), cl b16 4 (zeros [.bool false] n.toNat)]) e29 ?_
            refine K.GL.storeP (cs' := knew n.toNat (x + 1)) rfl rfl rfl Tryz.sizeOf9 rfl rfl (knew_set (by omega) (by omega)) ?_
            refine K.GL.nil ?_
            refine K.GQ.block_normal ?_
            refine K.GQ.go ?_
            refine K.GC.region ?_
            refine K.GL.det (K.e_move rfl) rfl ?_
            first | refine K.GL.det (K.e_add rfl rfl ⟨by omega, by omega⟩) rfl ?_ | refine K.GL.det (K.e_addw rfl rfl) rfl ?_
            refine K.GL.det (K.e_assign rfl) rfl ?_
            refine K.GL.nil ?_
            exact K.GQ.round (x + 1) (by omega) (by omega) (by (repeat refine ⟨rfl, ?_⟩); exact trivial) (K.Sub.tail _ _)
        · first
          | exact absurd h3 (by decide)
          | try replace h3 := of_decide_eq_false h3
            refine K.GC.exit ?_
            refine K.GQ.then_exit ?_
            refine K.GQ.then_exit ?_
            refine K.GQ.block_hit ?_
            refine K.GQ.go ?_
            refine K.GC.seq ?_
            refine K.GC.region ?_
            refine K.GL.det (K.e_move rfl) rfl ?_
            refine K.GL.det (K.e_assign rfl) rfl ?_
            refine K.GL.nil ?_
            refine K.GQ.go ?_
            refine K.GC.ret ?_
            refine K.GQ.ret1 Tryz.results7 rfl (fun w hT => ?_)
            first
              | exact .inl ⟨by omega, rfl, hT.nil⟩
              | (obtain rfl : x = n.toNat := by omega
                 exact .inr ⟨_, _, ⟨by omega, by omega⟩, rfl, rn_ok (by omega) (by omega), rfl, by rw [rn_R]; exact hT.one⟩)
end Go.Proofs.YtdbedajaapamhaaGreat
