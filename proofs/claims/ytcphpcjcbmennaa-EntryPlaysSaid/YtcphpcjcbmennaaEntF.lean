/- What the index tells of all: All, Items, In. -/
import Derived.Test.YtcphpcjcbmennaaEntE
import Derived.Test.YtcphpcjcbmennaaKi
namespace Go.Proofs.Ytcphpcjcbmennaa
open Go Go.K
set_option linter.unusedVariables false
set_option linter.unusedSimpArgs false
attribute [local irreducible] Calls Ev GL GC GQ GR Code.wp
structure OE where
  x : EX
  a : Option Addr
  c : Nat
def OE.enc (o : OE) : List Value := encE o.x o.a o.c
def svR (o : OE) : Res := row o.a o.c 1 9 (strs o.x.sv)
def encI (x : EX) : List Value := [.int .i64 x.id, .int .i64 x.cls, .int .i64 x.tick, .int .i64 x.cost, .bool x.pin]
abbrev IG.all (g : IG) : List EX := sortX EX.tick EX.id g.ents
abbrev IG.in_ (g : IG) (s : Int) : List EX := sortX EX.at_ EX.id (g.ents.filter fun x => decide (x.seq = s))
theorem IG.all_length (g : IG) : g.all.length = g.es.length := by unfold IG.all sortX IG.ents; rw [List.length_mergeSort, List.length_map]
theorem IG.in_length (g : IG) (s : Int) : (g.in_ s).length ≤ g.es.length := by
  unfold IG.in_ sortX
  rw [List.length_mergeSort]
  have := List.length_filter_le (fun x : EX => decide (x.seq = s)) g.ents
  unfold IG.ents at this ⊢
  rw [List.length_map] at this
  exact this
theorem lc_ok {g : IG} {d : Nat} {Cr : Res} {w0 w : World} {L0 : List Res} (hT : Tr w0 L0 w [IdxR d g, Cr]) : (all (g.LC d Cr)).ok w.heap :=
  (Tr.opened (l := g.L d) (F := [Cr]) hT).one.ok _ List.mem_cons_self
theorem lc_emp {g : IG} {d : Nat} {w : World} (h : (IdxR d g).ok w.heap) : (all (g.LC d emp)).ok w.heap :=
  lc_ok (w0 := w) (L0 := [IdxR d g]) ((Tr.start (Disj.one _) (fun r hr => by simp only [List.mem_singleton] at hr; subst hr; exact h)).emp.sub (Sub.take (i := 1) rfl (Sub.take (i := 0) rfl (Sub.nil _))))
theorem idx_ents {g : IG} {d : Nat} {w : World} (h : (IdxR d g).ok w.heap) : (all (g.es.map entR)).ok w.heap := h.2 _ (List.mem_cons_of_mem _ (List.mem_cons_of_mem _ List.mem_cons_self))
theorem ptrs_get {g : IG} {m : List (EI g)} {i : Nat} {e : EI g} (h : m[i]? = some e) : (ptrs m)[((i : Nat) : Int).toNat * 1]? = some (ptrE e.1.b) := by
  rw [Int.toNat_natCast, Nat.mul_one]
  unfold ptrs
  rw [List.getElem?_map, h]
  rfl
theorem oe_flat_length : ∀ l : List OE, (l.flatMap OE.enc).length = l.length * 13
  | [] => rfl
  | o :: l => by
    rw [List.flatMap_cons, List.length_append, oe_flat_length l, List.length_cons]
    have : o.enc.length = 13 := rfl
    omega
theorem it_flat_length : ∀ l : List EX, (l.flatMap encI).length = l.length * 5
  | [] => rfl
  | o :: l => by
    rw [List.flatMap_cons, List.length_append, it_flat_length l, List.length_cons]
    have : (encI o).length = 5 := rfl
    omega
theorem told_take {l : List OE} {xs : List EX} {o : OE} (h : l.map OE.x = xs.take l.length) (ho : xs[l.length]? = some o.x) : (l ++ [o]).map OE.x = xs.take (l ++ [o]).length := by
  rw [List.length_append, List.map_append, h]
  simp only [List.map_cons, List.map_nil, List.length_cons, List.length_nil, Nat.zero_add]
  obtain ⟨hl, he⟩ := List.getElem?_eq_some_iff.1 ho
  rw [List.take_add_one, ho]
  rfl
theorem map_get {g : IG} {m : List (EI g)} {xs : List EX} (hm : m.map (fun e => e.1.x) = xs) {i : Nat} {e : EI g} (h : m[i]? = some e) : xs[i]? = some e.1.x := by
  rw [← hm, List.getElem?_map, h]; rfl
theorem flat_take {xs : List EX} {i : Nat} {x : EX} (h : xs[i]? = some x) (f : EX → List Value) : (xs.take (i + 1)).flatMap f = (xs.take i).flatMap f ++ f x := by
  rw [List.take_add_one, h, List.flatMap_append]
  simp
def idsV (l : List EX) : List Value := l.map fun x => .int .i64 x.id
theorem ids_take {xs : List EX} {i : Nat} {x : EX} (h : xs[i]? = some x) : idsV (xs.take (i + 1)) = idsV (xs.take i) ++ [.int .i64 x.id] := by
  unfold idsV
  rw [List.take_add_one, h, List.map_append]
  rfl
theorem idsV_length (l : List EX) : (idsV l).length = l.length := by simp [idsV]
theorem enc_prefix {x : EX} {a : Option Addr} {c : Nat} {w : World} {b : Nat} (h : Cells w b x a c) : ∀ j v, (encI x)[j]? = some v → w.cell? ⟨b, 0 + j, none⟩ = some v := fun j v hj => h j v (by
  have : encE x a c = encI x ++ (encE x a c).drop 5 := rfl
  have hl := (List.getElem?_eq_some_iff.1 hj).1
  rw [this, List.getElem?_append_left hl]; exact hj)


section
variable {ops : Array Oper} {Q : Exit → Act → World → Prop} {N : Nat} {U : Env} {w0 : World} {L0 L F : List Res} {ty : TypeId} {rest : List Oper} {pos : String} {after : Array Edge} {d gi gk : Nat} {cap : List Value} {Cr : Res} {p : EX → Bool} {k1 k2 : EX → Int} {g : IG} {xs : List Operand} {tys : Array TypeId} {t : Tmp}
theorem gl_sorted (hf : ∀ args w, (callFunc 43 args).run Try.prog w = .ok (.enter 43 args) w) (hx : opvs U xs = some [.pointer (some ⟨d, 0, none⟩), .func (.func gi) #[] cap.toArray, .func (.func gk) #[] #[]]) (hk : g.Ok) (hz : g.es.length ≤ 9000) (hcp : Precise Cr ∧ Cr.wild = false)
    (hfi : ∀ args w, (callFunc gi args).run Try.prog w = .ok (.enter gi args) w) (hi : ∀ (w : World) (b : Nat) (x : EX) (a : Option Addr) (c : Nat), Cr.ok w.heap → Cells w b x a c → Calls Try.prog gi ([ptrE b] ++ cap).toArray w fun e w' => e = .returned (.bool (p x)) ∧ Tr w [] w' [])
    (hfk : ∀ args w, (callFunc gk args).run Try.prog w = .ok (.enter gk args) w) (hkey : KeyOk gk k1 k2) (hk2 : ∀ x, k2 x = x.id) (ho : ∀ w, Tr w0 L0 w L → (all (g.LC d Cr)).ok w.heap) (hd : Nat.ble (t + 1) N = true)
    (hr : ∀ (m : List (EI g)) a c, m.map (fun e => e.1.x) = sortX k1 k2 (g.ents.filter p) → GL Try.prog ops Q rest N ((t, .slice a m.length c) :: U) w0 L0 (row a c 1 63 (ptrs m) :: L)) : GL Try.prog ops Q (⟨some t, .call ⟨.value (.func 43), xs.toArray, tys⟩, ty, pos, after, Option.none⟩ :: rest) N U w0 L0 L :=
  GL.callM (α := List (EI g) × Option Addr × Nat) (l := []) (Pv := fun y v => y.1.map (fun e => e.1.x) = sortX k1 k2 (g.ents.filter p) ∧ v = .slice y.2.1 y.1.length y.2.2) (l' := fun y => [row y.2.1 y.2.2 1 63 (ptrs y.1)]) hf hx (Sub.refl _)
    (fun w hT => (sorted_con hk hz hcp hfi hi hfk hkey hk2 (ho w hT)).mono fun e w' ⟨m, hm, a, c, h1, h2⟩ => ⟨(m, a, c), _, h1, ⟨hm, rfl⟩, h2⟩) hd fun y v hv => by obtain ⟨h1, rfl⟩ := hv; exact hr y.1 y.2.1 y.2.2 h1
end

/- (*turntable/entry.Index).all -/
set_option maxHeartbeats 1000000 in
set_option maxRecDepth 100000 in
theorem all_con {d : Nat} {g : IG} (hk : g.Ok) (hz : g.es.length ≤ 9000) {w : World} (ho : (IdxR d g).ok w.heap) :
    Calls Try.prog 47 #[.pointer (some ⟨d, 0, none⟩)] w fun e w' => ∃ m : List (EI g), m.map (fun e => e.1.x) = g.all ∧ ∃ a c, e = .returned (.slice a m.length c) ∧ Tr w [] w' [row a c 1 63 (ptrs m)] := by
  refine K.enter (args := [_]) Try.func47 rfl Try.ntmps47 rfl (Disj.one _) (by intro x hx; simp only [List.mem_singleton] at hx; subst hx; exact ho) ?_
  refine K.GC.seq ?_
  refine K.GC.region ?_
  refine K.GL.det (K.e_assign rfl) rfl ?_
  refine K.GL.nil ?_
  refine K.GQ.go ?_
  refine K.GC.seq ?_
  refine K.GC.region ?_
  refine K.GL.det (K.e_move rfl) rfl ?_
  refine gl_sorted (p := fun _ => true) (k1 := EX.tick) (k2 := EX.id) (cap := []) (Cr := emp) Try.call43 rfl hk hz ⟨Precise.emp, rfl⟩ Try.call53 (fun w b x a c _ _ => all1_con b) Try.call54 (fun w b x a c h => all2_con h) (fun _ => rfl) (fun w hT => lc_emp (hT.ok _ PickI.mem)) rfl (fun m a4 c4 hm => ?_)
  refine K.GL.det (K.e_assign rfl) rfl ?_
  refine K.GL.nil ?_
  refine K.GQ.go ?_
  refine K.GC.ret ?_
  refine K.GQ.ret1 Try.results47 rfl (fun w hT => ?_)
  exact ⟨m, by rw [hm, List.filter_eq_self.2 (fun _ _ => rfl)], a4, c4, rfl, (hT.sub (Sub.take (i := 1) rfl (Sub.take (i := 0) rfl (Sub.nil _)))).calmed ho (IdxR.precise d g) (IdxR.wild d g)⟩

section
variable {ops : Array Oper} {Q : Exit → Act → World → Prop} {N : Nat} {U : Env} {w0 : World} {L0 L F : List Res} {ty : TypeId} {rest : List Oper} {pos : String} {after : Array Edge} {d : Nat} {g : IG} {xs : List Operand} {tys : Array TypeId} {t : Tmp}
theorem gl_allp (hf : ∀ args w, (callFunc 47 args).run Try.prog w = .ok (.enter 47 args) w) (hx : opvs U xs = some [.pointer (some ⟨d, 0, none⟩)]) (hk : g.Ok) (hz : g.es.length ≤ 9000) (ho : ∀ w, Tr w0 L0 w L → (IdxR d g).ok w.heap) (hd : Nat.ble (t + 1) N = true)
    (hr : ∀ (m : List (EI g)) a c, m.map (fun e => e.1.x) = g.all → GL Try.prog ops Q rest N ((t, .slice a m.length c) :: U) w0 L0 (row a c 1 63 (ptrs m) :: L)) : GL Try.prog ops Q (⟨some t, .call ⟨.value (.func 47), xs.toArray, tys⟩, ty, pos, after, Option.none⟩ :: rest) N U w0 L0 L :=
  GL.callM (α := List (EI g) × Option Addr × Nat) (l := []) (Pv := fun y v => y.1.map (fun e => e.1.x) = g.all ∧ v = .slice y.2.1 y.1.length y.2.2) (l' := fun y => [row y.2.1 y.2.2 1 63 (ptrs y.1)]) hf hx (Sub.refl _)
    (fun w hT => (all_con hk hz (ho w hT)).mono fun e w' ⟨m, hm, a, c, h1, h2⟩ => ⟨(m, a, c), _, h1, ⟨hm, rfl⟩, h2⟩) hd fun y v hv => by obtain ⟨h1, rfl⟩ := hv; exact hr y.1 y.2.1 y.2.2 h1
end

theorem mk53 : K.mkOf Try.prog 53 = some (33, [.int .i64 0, .int .i64 0, .int .i64 0, .int .i64 0, .bool false, .int .i64 0, .int .i64 0, .int .i64 0, .int .i64 0, .slice none 0 0, .int .i64 0, .int .i64 0, .int .i64 0], 120) := by kernel_rfl
theorem sl71 : K.slOf Try.prog 71 = some (63, 1) := by kernel_rfl
/- (*turntable/entry.Index).All -/
set_option maxHeartbeats 2000000 in
set_option maxRecDepth 100000 in
theorem All_con {d : Nat} {g : IG} (hk : g.Ok) (hz : g.es.length ≤ 9000) {w : World} (ho : (IdxR d g).ok w.heap) :
    Calls Try.prog 32 #[.pointer (some ⟨d, 0, none⟩)] w fun e w' => ∃ l : List OE, l.map OE.x = g.all ∧ ∃ a c, e = .returned (.slice a l.length c) ∧ Tr w [] w' [row a c 13 33 (l.flatMap OE.enc), all (l.map svR)] := by
  refine K.enter (args := [_]) Try.func32 rfl Try.ntmps32 rfl (Disj.one _) (by intro x hx; simp only [List.mem_singleton] at hx; subst hx; exact ho) ?_
  refine K.GC.seq ?_
  refine K.GC.region ?_
  refine K.GL.det (K.e_assign rfl) rfl ?_
  refine K.GL.nil ?_
  refine K.GQ.go ?_
  refine K.GC.seq ?_
  refine K.GC.region ?_
  refine K.GL.det (K.e_assign rfl) rfl ?_
  refine K.GL.nil ?_
  refine K.GQ.go ?_
  refine K.GC.seq ?_
  refine K.GC.seq ?_
  refine K.GC.region ?_
  refine K.GL.det (K.e_move rfl) rfl ?_
  refine gl_allp Try.call47 rfl hk hz (fun w hT => hT.ok _ PickI.mem) rfl (fun m7 a7 c7 hm7 => ?_)
  have hl7 : m7.length = g.es.length := by rw [← IG.all_length, ← hm7, List.length_map]
  refine K.GL.fact (p := 0 < m7.length → a7 = some ⟨bk a7, of_ a7, none⟩) (fun w hT => (hT.sl_row (k := 1) (n := m7.length) (List.mem_of_getElem? (i := 0) rfl) (by omega) (by rw [ptrs_length, Nat.mul_one])).base) (fun hbase => ?_)
  refine K.GL.all0 ?_
  refine K.GL.row0 13 33 ?_
  refine K.GL.det (K.e_len Try.underlying71 rfl) rfl ?_
  refine K.GL.det (K.e_move rfl) rfl ?_
  refine K.GL.nil ?_
  refine K.GQ.go ?_
  refine K.GC.block ?_
  refine K.GC.loopk (α := List OE × Option Addr × Nat) [2, 7, 8, 21] rfl (fun x => [(3, .slice x.2.1 x.1.length x.2.2), (9, .int .i64 x.1.length)]) (fun x => [row x.2.1 x.2.2 13 33 (x.1.flatMap OE.enc), all (x.1.map svR), row a7 c7 1 63 (ptrs m7), IdxR d g]) (fun x => x.1.map OE.x = g.all.take x.1.length ∧ x.1.length ≤ m7.length) (fun x => m7.length - x.1.length) ([], none, 0) ⟨by simp, by simp⟩ (by (repeat refine ⟨rfl, ?_⟩); exact trivial) (K.Sub.refl _) (fun x hI => ?_)
  refine K.GC.seq ?_
  refine K.GC.region ?_
  first | refine K.GL.det ((K.e_lt rfl rfl).yes (by first | omega | assumption | decide +kernel)) rfl ?_ | refine K.GL.det ((K.e_lt rfl rfl).no (by first | omega | assumption | decide +kernel)) rfl ?_ | refine K.GL.det (K.e_lt rfl rfl) rfl ?_
  refine K.GL.nil ?_
  refine K.GQ.go ?_
  refine K.GC.seq ?_
  refine K.GC.condB rfl (fun h1 => ?_) (fun h1 => ?_)
  · first
    | exact absurd h1 (by decide)
    | try replace h1 := of_decide_eq_true h1
      refine K.GC.skip ?_
      refine K.GQ.go ?_
      refine K.GC.seq ?_
      refine K.GC.block ?_
      refine K.GC.seq ?_
      obtain ⟨e1, he1⟩ : ∃ e1, m7[x.1.length]? = some e1 := ⟨_, List.getElem?_eq_getElem (by omega)⟩
      refine K.GC.region ?_
      refine K.GL.det (K.e_indexAddrB sl71 rfl rfl hbase (by omega) (by omega)) rfl ?_
      refine K.GL.det (K.e_loadw Try.isAgg63 rfl (fun w hT => (hT.sl_row (k := 1) (n := m7.length) (List.mem_of_getElem? (i := 2) rfl) (by omega) (by rw [ptrs_length, Nat.mul_one])).cell _ _ (ptrs_get he1))) rfl ?_
      refine K.GL.det (K.e_assign rfl) rfl ?_
      refine K.GL.nil ?_
      refine K.GQ.go ?_
      refine K.GC.region ?_
      refine K.GL.det (K.e_move rfl) rfl ?_
      refine K.GL.det (K.e_move rfl) rfl ?_
      refine K.GL.det (K.e_nilCheck rfl) rfl ?_
      refine K.GL.det (K.e_loadsw Try.isAgg33 Try.sizeOf33 rfl (fun w hT => (ent_cells (idx_ents (hT.ok (IdxR d g) (by simp))) e1.2).1) (encE_len _ _ _)) rfl ?_
      refine gl_own (x := e1.1.x) Try.call38 rfl (fun w hT => (ent_cells (idx_ents (hT.ok (IdxR d g) (by simp))) e1.2).2) (hk.sv e1.1 e1.2) rfl (fun a17 c17 => ?_)
      refine K.GL.buildSlice mk53 rfl rfl rfl (fun b18 => ?_)
      refine K.GL.append mk53 rfl rfl (oe_flat_length _) rfl (fun w hT => Sl.of_block (hT.ok _ (List.mem_of_getElem? (i := 0) rfl)) rfl) (by omega) (oneCells_spec (by rfl)) (by omega) (by omega) _ rfl (fun a19 c19 => ?_)
      refine K.GL.det (K.e_assign rfl) rfl ?_
      refine K.GL.nil ?_
      refine K.GQ.block_normal ?_
      refine K.GQ.go ?_
      refine K.GC.region ?_
      first | refine K.GL.det (K.e_add rfl rfl ⟨by omega, by omega⟩) rfl ?_ | refine K.GL.det (K.e_addw rfl rfl) rfl ?_
      refine K.GL.det (K.e_move rfl) rfl ?_
      refine K.GL.nil ?_
      refine GQ.res (L' := [svR ⟨e1.1.x, a17, c17⟩, all (x.1.map svR), row a19 c19 13 33 (x.1.flatMap OE.enc ++ encE e1.1.x a17 c17), row a7 c7 1 63 (ptrs m7), IdxR d g]) ?_ (Sub.take (i := 1) rfl (Sub.take (i := 2) rfl (Sub.take (i := 1) rfl (Sub.take (i := 1) rfl (Sub.take (i := 1) rfl (Sub.nil _))))))
      refine GQ.snoc ?_
      have hl2 : (x.1 ++ [(⟨e1.1.x, a17, c17⟩ : OE)]).length = x.1.length + 1 := by simp
      have hfm : (x.1 ++ [(⟨e1.1.x, a17, c17⟩ : OE)]).flatMap OE.enc = x.1.flatMap OE.enc ++ encE e1.1.x a17 c17 := by simp [OE.enc]
      have hmm : (x.1 ++ [(⟨e1.1.x, a17, c17⟩ : OE)]).map svR = x.1.map svR ++ [svR ⟨e1.1.x, a17, c17⟩] := by simp
      exact K.GQ.round (x.1 ++ [(⟨e1.1.x, a17, c17⟩ : OE)], a19, c19) ⟨told_take hI.1 (map_get hm7 he1), by rw [hl2]; omega⟩ (by simp only [hl2]; omega) (by simp only [hl2, Int.natCast_succ]; (repeat refine ⟨rfl, ?_⟩); exact trivial) (by simp only [hfm, hmm]; exact Sub.take (i := 1) rfl (Sub.take (i := 0) rfl (Sub.refl _)))
  · first
    | exact absurd h1 (by decide)
    | try replace h1 := of_decide_eq_false h1
      refine K.GC.exit ?_
      refine K.GQ.then_exit ?_
      refine K.GQ.then_exit ?_
      refine K.GQ.block_hit ?_
      refine K.GQ.go ?_
      refine K.GC.seq ?_
      refine K.GC.region ?_
      refine K.GL.det (K.e_move rfl) rfl ?_
      refine K.GL.det (K.e_assign rfl) rfl ?_
      refine K.GL.nil ?_
      refine K.GQ.go ?_
      refine K.GC.ret ?_
      refine K.GQ.ret1 Try.results32 rfl (fun w hT => ?_)
      exact ⟨x.1, by rw [hI.1, List.take_of_length_le (by rw [IG.all_length]; omega)], x.2.1, x.2.2, rfl, (hT.sub (Sub.take (i := 3) rfl (Sub.take (i := 0) rfl (Sub.take (i := 0) rfl (Sub.nil _))))).calmed ho (IdxR.precise d g) (IdxR.wild d g)⟩
theorem mk56 : K.mkOf Try.prog 56 = some (28, [.int .i64 0, .int .i64 0, .int .i64 0, .int .i64 0, .bool false], 40) := by kernel_rfl
/- (*turntable/entry.Index).Items -/
set_option maxHeartbeats 2000000 in
set_option maxRecDepth 100000 in
theorem Items_con {d : Nat} {g : IG} (hk : g.Ok) (hz : g.es.length ≤ 9000) {w : World} (ho : (IdxR d g).ok w.heap) :
    Calls Try.prog 35 #[.pointer (some ⟨d, 0, none⟩)] w fun e w' => ∃ a c, e = .returned (.slice a g.all.length c) ∧ Tr w [] w' [row a c 5 28 (g.all.flatMap encI)] := by
  refine K.enter (args := [_]) Try.func35 rfl Try.ntmps35 rfl (Disj.one _) (by intro x hx; simp only [List.mem_singleton] at hx; subst hx; exact ho) ?_
  refine K.GC.seq ?_
  refine K.GC.region ?_
  refine K.GL.det (K.e_assign rfl) rfl ?_
  refine K.GL.nil ?_
  refine K.GQ.go ?_
  refine K.GC.seq ?_
  refine K.GC.region ?_
  refine K.GL.det (K.e_assign rfl) rfl ?_
  refine K.GL.nil ?_
  refine K.GQ.go ?_
  refine K.GC.seq ?_
  refine K.GC.seq ?_
  refine K.GC.region ?_
  refine K.GL.det (K.e_move rfl) rfl ?_
  refine gl_allp Try.call47 rfl hk hz (fun w hT => hT.ok _ PickI.mem) rfl (fun m7 a7 c7 hm7 => ?_)
  have hl7 : m7.length = g.all.length := by rw [← hm7, List.length_map]
  have hz7 : m7.length ≤ 9000 := by rw [hl7, IG.all_length]; exact hz
  refine K.GL.fact (p := 0 < m7.length → a7 = some ⟨bk a7, of_ a7, none⟩) (fun w hT => (hT.sl_row (k := 1) (n := m7.length) (List.mem_of_getElem? (i := 0) rfl) (by omega) (by rw [ptrs_length, Nat.mul_one])).base) (fun hbase => ?_)
  refine K.GL.row0 5 28 ?_
  refine K.GL.det (K.e_len Try.underlying71 rfl) rfl ?_
  refine K.GL.det (K.e_move rfl) rfl ?_
  refine K.GL.nil ?_
  refine K.GQ.go ?_
  refine K.GC.block ?_
  refine K.GC.loopk (α := Nat × Option Addr × Nat) [2, 7, 8, 21] rfl (fun x => [(3, .slice x.2.1 x.1 x.2.2), (9, .int .i64 x.1)]) (fun x => [row x.2.1 x.2.2 5 28 ((g.all.take x.1).flatMap encI), row a7 c7 1 63 (ptrs m7), IdxR d g]) (fun x => x.1 ≤ m7.length) (fun x => m7.length - x.1) (0, none, 0) (Nat.zero_le _) (by (repeat refine ⟨rfl, ?_⟩); exact trivial) (K.Sub.refl _) (fun x hI => ?_)
  refine K.GC.seq ?_
  refine K.GC.region ?_
  first | refine K.GL.det ((K.e_lt rfl rfl).yes (by first | omega | assumption | decide +kernel)) rfl ?_ | refine K.GL.det ((K.e_lt rfl rfl).no (by first | omega | assumption | decide +kernel)) rfl ?_ | refine K.GL.det (K.e_lt rfl rfl) rfl ?_
  refine K.GL.nil ?_
  refine K.GQ.go ?_
  refine K.GC.seq ?_
  refine K.GC.condB rfl (fun h1 => ?_) (fun h1 => ?_)
  · first
    | exact absurd h1 (by decide)
    | try replace h1 := of_decide_eq_true h1
      refine K.GC.skip ?_
      refine K.GQ.go ?_
      refine K.GC.seq ?_
      refine K.GC.block ?_
      refine K.GC.seq ?_
      obtain ⟨e1, he1⟩ : ∃ e1, m7[x.1]? = some e1 := ⟨_, List.getElem?_eq_getElem (by omega)⟩
      refine K.GC.region ?_
      refine K.GL.det (K.e_indexAddrB sl71 rfl rfl hbase (by omega) (by omega)) rfl ?_
      refine K.GL.det (K.e_loadw Try.isAgg63 rfl (fun w hT => (hT.sl_row (k := 1) (n := m7.length) (List.mem_of_getElem? (i := 1) rfl) (by omega) (by rw [ptrs_length, Nat.mul_one])).cell _ _ (ptrs_get he1))) rfl ?_
      refine K.GL.det (K.e_assign rfl) rfl ?_
      refine K.GL.nil ?_
      refine K.GQ.go ?_
      refine K.GC.region ?_
      refine K.GL.det (K.e_move rfl) rfl ?_
      refine K.GL.det (K.e_move rfl) rfl ?_
      refine K.GL.det (K.e_nilCheck rfl) rfl ?_
      refine K.GL.det (K.e_fieldAddr fo33_0 rfl) rfl ?_
      refine K.GL.det (K.e_loadsw Try.isAgg28 Try.sizeOf28 rfl (fun w hT => enc_prefix (ent_cells (idx_ents (hT.ok (IdxR d g) (by simp))) e1.2).1) rfl) rfl ?_
      refine K.GL.buildSlice mk56 rfl rfl rfl (fun b18 => ?_)
      refine K.GL.append mk56 rfl rfl (by rw [it_flat_length, List.length_take, Nat.min_eq_left (by omega)]; rfl) rfl (fun w hT => Sl.of_block (hT.ok _ (List.mem_of_getElem? (i := 0) rfl)) rfl) (by omega) (oneCells_spec (by rfl)) (by omega) (by omega) _ rfl (fun a19 c19 => ?_)
      refine K.GL.det (K.e_assign rfl) rfl ?_
      refine K.GL.nil ?_
      refine K.GQ.block_normal ?_
      refine K.GQ.go ?_
      refine K.GC.region ?_
      first | refine K.GL.det (K.e_add rfl rfl ⟨by omega, by omega⟩) rfl ?_ | refine K.GL.det (K.e_addw rfl rfl) rfl ?_
      refine K.GL.det (K.e_move rfl) rfl ?_
      refine K.GL.nil ?_
      exact K.GQ.round (x.1 + 1, a19, c19) (by show x.1 + 1 ≤ _; omega) (by show m7.length - (x.1 + 1) < _; omega) (by simp only [Int.natCast_succ]; (repeat refine ⟨rfl, ?_⟩); exact trivial) (by simp only [flat_take (map_get hm7 he1) encI]; exact Sub.tail _ _)
  · first
    | exact absurd h1 (by decide)
    | try replace h1 := of_decide_eq_false h1
      refine K.GC.exit ?_
      refine K.GQ.then_exit ?_
      refine K.GQ.then_exit ?_
      refine K.GQ.block_hit ?_
      refine K.GQ.go ?_
      refine K.GC.seq ?_
      refine K.GC.region ?_
      refine K.GL.det (K.e_move rfl) rfl ?_
      refine K.GL.det (K.e_assign rfl) rfl ?_
      refine K.GL.nil ?_
      refine K.GQ.go ?_
      refine K.GC.ret ?_
      refine K.GQ.ret1 Try.results35 rfl (fun w hT => ?_)
      have hx1 : x.1 = g.all.length := by omega
      rw [hx1] at hT
      exact ⟨x.2.1, x.2.2, by rw [hx1], (by rw [List.take_length] at hT; exact (hT.sub (Sub.take (i := 2) rfl (Sub.take (i := 0) rfl (Sub.nil _)))).calmed ho (IdxR.precise d g) (IdxR.wild d g))⟩
/- (*turntable/entry.Index).In -/
set_option maxHeartbeats 2000000 in
set_option maxRecDepth 100000 in
theorem In_con {d : Nat} {g : IG} (hk : g.Ok) (hz : g.es.length ≤ 9000) (s : Int) {w : World} (ho : (IdxR d g).ok w.heap) :
    Calls Try.prog 29 #[.pointer (some ⟨d, 0, none⟩), .int .i64 s] w fun e w' => ∃ a c, e = .returned (.slice a (g.in_ s).length c) ∧ Tr w [] w' [row a c 1 2 (idsV (g.in_ s))] := by
  refine K.enter (args := [_, _]) Try.func29 rfl Try.ntmps29 rfl (Disj.one _) (by intro x hx; simp only [List.mem_singleton] at hx; subst hx; exact ho) ?_
  refine K.GC.seq ?_
  refine K.GC.region ?_
  refine K.GL.box rfl rfl rfl (fun b3 => ?_)
  refine K.GL.det (K.e_assign rfl) rfl ?_
  refine K.GL.nil ?_
  refine K.GQ.go ?_
  refine K.GC.seq ?_
  refine K.GC.region ?_
  refine K.GL.det (K.e_assign rfl) rfl ?_
  refine K.GL.nil ?_
  refine K.GQ.go ?_
  refine K.GC.seq ?_
  refine K.GC.seq ?_
  refine K.GC.region ?_
  refine K.GL.det (K.e_move rfl) rfl ?_
  refine K.GL.det (K.e_makeFunc rfl) rfl ?_
  refine gl_sorted (p := fun x => decide (x.seq = s)) (k1 := EX.at_) (k2 := EX.id) (cap := [ptrE b3]) (Cr := cl b3 2 [.int .i64 s]) Try.call43 rfl hk hz ⟨Precise.pt _ _, rfl⟩ Try.call44 (fun w b x a c h1 h => in1_con h (by rw [cell_of_block h1]; rfl)) Try.call45 (fun w b x a c h => in2_con h) (fun _ => rfl) (fun w hT => lc_ok (hT.sub (Sub.take (i := 1) rfl (Sub.take (i := 0) rfl (Sub.nil _))))) rfl (fun m10 a10 c10 hm10 => ?_)
  replace hm10 : m10.map (fun e => e.1.x) = g.in_ s := hm10
  have hl10 : m10.length = (g.in_ s).length := by rw [← hm10, List.length_map]
  have hz10 : m10.length ≤ 9000 := by have := IG.in_length g s; omega
  refine K.GL.fact (p := 0 < m10.length → a10 = some ⟨bk a10, of_ a10, none⟩) (fun w hT => (hT.sl_row (k := 1) (n := m10.length) (List.mem_of_getElem? (i := 0) rfl) (by omega) (by rw [ptrs_length, Nat.mul_one])).base) (fun hbase => ?_)
  refine K.GL.row0 1 2 ?_
  refine K.GL.det (K.e_len Try.underlying71 rfl) rfl ?_
  refine K.GL.det (K.e_move rfl) rfl ?_
  refine K.GL.nil ?_
  refine K.GQ.go ?_
  refine K.GC.block ?_
  refine K.GC.loopk (α := Nat × Option Addr × Nat) [4, 10, 11, 25] rfl (fun x => [(5, .slice x.2.1 x.1 x.2.2), (12, .int .i64 x.1)]) (fun x => [row x.2.1 x.2.2 1 2 (idsV ((g.in_ s).take x.1)), row a10 c10 1 63 (ptrs m10), cl b3 2 [.int .i64 s], IdxR d g]) (fun x => x.1 ≤ m10.length) (fun x => m10.length - x.1) (0, none, 0) (Nat.zero_le _) (by (repeat refine ⟨rfl, ?_⟩); exact trivial) (K.Sub.refl _) (fun x hI => ?_)
  refine K.GC.seq ?_
  refine K.GC.region ?_
  first | refine K.GL.det ((K.e_lt rfl rfl).yes (by first | omega | assumption | decide +kernel)) rfl ?_ | refine K.GL.det ((K.e_lt rfl rfl).no (by first | omega | assumption | decide +kernel)) rfl ?_ | refine K.GL.det (K.e_lt rfl rfl) rfl ?_
  refine K.GL.nil ?_
  refine K.GQ.go ?_
  refine K.GC.seq ?_
  refine K.GC.condB rfl (fun h1 => ?_) (fun h1 => ?_)
  · first
    | exact absurd h1 (by decide)
    | try replace h1 := of_decide_eq_true h1
      refine K.GC.skip ?_
      refine K.GQ.go ?_
      refine K.GC.seq ?_
      refine K.GC.block ?_
      refine K.GC.seq ?_
      obtain ⟨e1, he1⟩ : ∃ e1, m10[x.1]? = some e1 := ⟨_, List.getElem?_eq_getElem (by omega)⟩
      refine K.GC.region ?_
      refine K.GL.det (K.e_indexAddrB sl71 rfl rfl hbase (by omega) (by omega)) rfl ?_
      refine K.GL.det (K.e_loadw Try.isAgg63 rfl (fun w hT => (hT.sl_row (k := 1) (n := m10.length) (List.mem_of_getElem? (i := 1) rfl) (by omega) (by rw [ptrs_length, Nat.mul_one])).cell _ _ (ptrs_get he1))) rfl ?_
      refine K.GL.det (K.e_assign rfl) rfl ?_
      refine K.GL.nil ?_
      refine K.GQ.go ?_
      refine K.GC.region ?_
      refine K.GL.det (K.e_move rfl) rfl ?_
      refine K.GL.det (K.e_move rfl) rfl ?_
      refine K.GL.det (K.e_nilCheck rfl) rfl ?_
      refine K.GL.det (K.e_fieldAddr fo33_0 rfl) rfl ?_
      refine K.GL.det (K.e_fieldAddr fo28_0 rfl) rfl ?_
      refine K.GL.det (K.e_loadw Try.isAgg2 rfl (fun w hT => (ent_cells (idx_ents (hT.ok (IdxR d g) (by simp))) e1.2).1 0 _ rfl)) rfl ?_
      refine K.GL.buildSlice mk50 rfl rfl rfl (fun b22 => ?_)
      refine K.GL.append mk50 rfl rfl (by rw [idsV_length, List.length_take, Nat.min_eq_left (by omega)]; exact (Nat.mul_one _).symm) rfl (fun w hT => Sl.of_block (hT.ok _ (List.mem_of_getElem? (i := 0) rfl)) rfl) (by omega) (oneCells_spec (by rfl)) (by omega) (by omega) _ rfl (fun a23 c23 => ?_)
      refine K.GL.det (K.e_assign rfl) rfl ?_
      refine K.GL.nil ?_
      refine K.GQ.block_normal ?_
      refine K.GQ.go ?_
      refine K.GC.region ?_
      first | refine K.GL.det (K.e_add rfl rfl ⟨by omega, by omega⟩) rfl ?_ | refine K.GL.det (K.e_addw rfl rfl) rfl ?_
      refine K.GL.det (K.e_move rfl) rfl ?_
      refine K.GL.nil ?_
      exact K.GQ.round (x.1 + 1, a23, c23) (by show x.1 + 1 ≤ _; omega) (by show m10.length - (x.1 + 1) < _; omega) (by simp only [Int.natCast_succ]; (repeat refine ⟨rfl, ?_⟩); exact trivial) (by simp only [ids_take (map_get hm10 he1)]; exact Sub.tail _ _)
  · first
    | exact absurd h1 (by decide)
    | try replace h1 := of_decide_eq_false h1
      refine K.GC.exit ?_
      refine K.GQ.then_exit ?_
      refine K.GQ.then_exit ?_
      refine K.GQ.block_hit ?_
      refine K.GQ.go ?_
      refine K.GC.seq ?_
      refine K.GC.region ?_
      refine K.GL.det (K.e_move rfl) rfl ?_
      refine K.GL.det (K.e_assign rfl) rfl ?_
      refine K.GL.nil ?_
      refine K.GQ.go ?_
      refine K.GC.ret ?_
      refine K.GQ.ret1 Try.results29 rfl (fun w hT => ?_)
      have hx1 : x.1 = (g.in_ s).length := by omega
      rw [hx1] at hT
      exact ⟨x.2.1, x.2.2, by rw [hx1], (by rw [List.take_length] at hT; exact (hT.sub (Sub.take (i := 3) rfl (Sub.take (i := 0) rfl (Sub.nil _)))).calmed ho (IdxR.precise d g) (IdxR.wild d g))⟩
end Go.Proofs.Ytcphpcjcbmennaa
