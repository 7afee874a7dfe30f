/- The calls of an index by kinds; the document's index, and what its functions give. -/
import Derived.Test.YtcphpcjcbmennaaEntN
import Derived.Test.YtcphpcjcbmennaaKr
namespace Go.Proofs.Ytcphpcjcbmennaa
open Go Go.K
set_option linter.unusedVariables false
set_option linter.unusedSimpArgs false
attribute [local irreducible] Calls Ev GL GC GQ GR Code.wp
/-! ### By kinds -/
def encOE : Enc OE := ⟨OE.enc, 13, by decide, fun _ => rfl, fun _ => rfl⟩
def encIt : Enc EX := ⟨encI, 5, by decide, fun _ => rfl, fun _ => rfl⟩
instance : Inhabited OE := ⟨⟨EX.zero, none, 0⟩⟩
theorem strs_fl : ∀ l : List Bytes, K.encS.fl l = strs l
  | [] => rfl
  | b :: l => by show _ :: K.encS.fl l = _; rw [strs_fl l]; rfl
theorem idsV_fl : ∀ l : List EX, (K.encI .i64).fl (l.map EX.id) = idsV l
  | [] => rfl
  | x :: l => by show _ :: (K.encI .i64).fl (l.map EX.id) = _; rw [idsV_fl l]; rfl
theorem intsV_fl : ∀ l : List Int, (K.encI .i64).fl l = intsV l
  | [] => rfl
  | x :: l => by show _ :: (K.encI .i64).fl l = _; rw [intsV_fl l]; rfl
class PkX (L : List Res) (d : Nat) (g : outParam IG) (F : outParam (List Res)) : Prop where
  out : Sub (IdxR d g :: F) L
instance PkX.tail {L F : List Res} {s : Res} {d : Nat} {g : IG} [h : PkX L d g F] : PkX (s :: L) d g (s :: F) := ⟨(Sub.swap _ s F).trans (h.out.cons s)⟩
instance PkX.head {L : List Res} {d : Nat} {g : IG} : PkX (IdxR d g :: L) d g L := ⟨Sub.refl _⟩
class InX (w0 : World) (L0 L : List Res) (d : Nat) (g : outParam IG) : Prop where
  out : ∀ w, Tr w0 L0 w L → (IdxR d g).ok w.heap
instance InX.tail {w0 : World} {L0 L : List Res} {s : Res} {d : Nat} {g : IG} [h : InX w0 L0 L d g] : InX w0 L0 (s :: L) d g := ⟨fun w hT => h.out w hT.drop_one⟩
instance InX.head {w0 : World} {L0 L : List Res} {d : Nat} {g : IG} : InX w0 L0 (IdxR d g :: L) d g := ⟨fun w hT => hT.ok _ List.mem_cons_self⟩
/-- The strings of many entries. -/
def SvAt (w : World) (l : List OE) : Prop := ∀ o ∈ l, Sl w 1 o.a o.x.sv.length (strs o.x.sv)
class InSv (w0 : World) (L0 L : List Res) (l : List OE) : Prop where
  out : ∀ w, Tr w0 L0 w L → SvAt w l
instance (priority := low) InSv.tail {w0 : World} {L0 L : List Res} {s : Res} {l : List OE} [h : InSv w0 L0 L l] : InSv w0 L0 (s :: L) l := ⟨fun w hT => h.out w hT.drop_one⟩
theorem sv_of {w0 w : World} {L0 F : List Res} {l : List OE} (hT : Tr w0 L0 w (all (l.map svR) :: F)) : SvAt w l := fun o ho => by
  have h1 : Tr w0 L0 w (l.map svR ++ F) := hT.opened
  exact h1.sl_row (k := 1) (n := o.x.sv.length) (List.mem_append_left _ (List.mem_map.2 ⟨o, ho, rfl⟩)) (by omega) (by rw [strs_length, Nat.mul_one])
instance InSv.head {w0 : World} {L0 L : List Res} {l : List OE} : InSv w0 L0 (all (l.map svR) :: L) l := ⟨fun w hT => sv_of hT⟩
theorem rdc_sv {w0 : World} {L0 F : List Res} {l : List OE} [h : InSv w0 L0 F l] {o : OE} (ho : o ∈ l) : RdC w0 L0 [] F o.a K.encS o.x.sv :=
  ⟨fun w hT => ⟨by have h1 := h.out w hT o ho; rw [strs_fl]; exact h1, fun _ r hr => by cases hr⟩⟩
/-! ### The document's index, and where it lies -/
structure RI where
  l : List OE
  a : Option Addr
  c : Nat
abbrev RI.L (g : RI) (r : Nat) : List Res := [cl r 68 [.slice g.a g.l.length g.c], trow g.a g.c 33 encOE g.l, all (g.l.map svR)]
def RefI (r : Nat) (g : RI) : Res := all (g.L r)
abbrev RI.xs (g : RI) : List EX := g.l.map OE.x
def SvOk (l : List OE) : Prop := ∀ o ∈ l, o.x.sv.length ≤ 9000
class PkI (L : List Res) (r : Nat) (g : outParam RI) (F : outParam (List Res)) : Prop where
  out : Sub (RefI r g :: F) L
instance PkI.tail {L F : List Res} {s : Res} {r : Nat} {g : RI} [h : PkI L r g F] : PkI (s :: L) r g (s :: F) := ⟨(Sub.swap _ s F).trans (h.out.cons s)⟩
instance PkI.head {L : List Res} {r : Nat} {g : RI} : PkI (RefI r g :: L) r g L := ⟨Sub.refl _⟩
theorem sv_del {w0 w : World} {L0 F : List Res} {l : List OE} {i : Nat} {o : OE} (ho : l[i]? = some o) (hT : Tr w0 L0 w (all (l.map svR) :: F)) : Tr w0 L0 w (all ((l.take i ++ l.drop (i + 1)).map svR) :: F) := by
  rw [split_at ho, List.map_append, List.map_cons] at hT
  have h2 := hT.pull.drop_one
  rw [← List.map_append] at h2
  exact h2
theorem sv_put {w0 w : World} {L0 F : List Res} {l : List OE} {k : Nat} {o : OE} (hT : Tr w0 L0 w (svR o :: all (l.map svR) :: F)) : Tr w0 L0 w (all ((l.take k ++ o :: l.drop k).map svR) :: F) := by
  have e : l.map svR = (l.take k).map svR ++ (l.drop k).map svR := by rw [← List.map_append, List.take_append_drop]
  rw [e] at hT
  have h2 := hT.push
  rw [List.map_append, List.map_cons]
  exact h2
theorem sv_set {l : List OE} {i : Nat} {o : OE} (ho : l[i]? = some o) {x : EX} (hx : x.sv = o.x.sv) : (l.set i ⟨x, o.a, o.c⟩).map svR = l.map svR := by
  rw [List.map_set]
  refine List.ext_getElem? fun m => ?_
  by_cases hm : i = m
  · subst hm
    have h1 := (List.getElem?_eq_some_iff.1 ho).1
    rw [List.getElem?_set_self (by rw [List.length_map]; exact h1), List.getElem?_map, ho]
    show some (svR ⟨x, o.a, o.c⟩) = some (svR o)
    unfold svR
    simp only [hx]
  · rw [List.getElem?_set_ne hm]
theorem RefI.of {r : Nat} {g : RI} {w0 w : World} {L0 F : List Res} (hT : Tr w0 L0 w (cl r 68 [.slice g.a g.l.length g.c] :: trow g.a g.c 33 encOE g.l :: all (g.l.map svR) :: F)) : Tr w0 L0 w (RefI r g :: F) := Tr.closed (l := g.L r) hT
theorem rnew_end {b : Nat} {w0 w : World} {L0 : List Res} (hT : Tr w0 L0 w [cl b 68 [.slice none 0 0]]) : Tr w0 L0 w [RefI b ⟨[], none, 0⟩] := by
  have h2 : Tr w0 L0 w (all [] :: [trow none 0 33 encOE [], cl b 68 [.slice none 0 0]]) := Tr.closed (l := []) (hT.trow_nil 33 encOE)
  exact RefI.of (g := ⟨[], none, 0⟩) (F := []) (h2.sub (by show K.Sub [cl b 68 [.slice none 0 0], trow none 0 33 encOE [], all []] _; exact K.sb))
theorem sub_ok {l : List OE} (h : SvOk l) {i : Nat} : SvOk (l.take i ++ l.drop (i + 1)) := fun o ho => by
  rcases List.mem_append.1 ho with h1 | h1
  · exact h o (List.mem_of_mem_take h1)
  · exact h o (List.mem_of_mem_drop h1)
theorem rdel_end {rp i c : Nat} {a : Option Addr} {l : List OE} {o : OE} {w0 w : World} {L0 : List Res} (ho : l[i]? = some o)
    (hT : Tr w0 L0 w [all (l.map svR), cl rp 68 [.slice a (l.take i ++ l.drop (i + 1)).length c], trow a c 33 encOE (l.take i ++ l.drop (i + 1))]) : Tr w0 L0 w [RefI rp ⟨l.take i ++ l.drop (i + 1), a, c⟩] :=
  RefI.of (g := ⟨l.take i ++ l.drop (i + 1), a, c⟩) (F := []) ((sv_del ho hT).sub (by show K.Sub [cl rp 68 [.slice a (l.take i ++ l.drop (i + 1)).length c], trow a c 33 encOE (l.take i ++ l.drop (i + 1)), all ((l.take i ++ l.drop (i + 1)).map svR)] _; exact K.sb))
theorem rput_end {rp k c : Nat} {a : Option Addr} {l : List OE} {o : OE} {w0 w : World} {L0 : List Res}
    (hT : Tr w0 L0 w [svR o, all (l.map svR), cl rp 68 [.slice a (l.take k ++ o :: l.drop k).length c], trow a c 33 encOE (l.take k ++ o :: l.drop k)]) : Tr w0 L0 w [RefI rp ⟨l.take k ++ o :: l.drop k, a, c⟩] :=
  RefI.of (g := ⟨l.take k ++ o :: l.drop k, a, c⟩) (F := []) ((sv_put (k := k) hT).sub (by show K.Sub [cl rp 68 [.slice a (l.take k ++ o :: l.drop k).length c], trow a c 33 encOE (l.take k ++ o :: l.drop k), all ((l.take k ++ o :: l.drop k).map svR)] _; exact K.sb))
theorem rset_end {rp i c : Nat} {a : Option Addr} {l : List OE} {o : OE} {x : EX} {w0 w : World} {L0 : List Res} (ho : l[i]? = some o) (hx : x.sv = o.x.sv)
    (hT : Tr w0 L0 w [cl rp 68 [.slice a (l.set i ⟨x, o.a, o.c⟩).length c], trow a c 33 encOE (l.set i ⟨x, o.a, o.c⟩), all (l.map svR)]) : Tr w0 L0 w [RefI rp ⟨l.set i ⟨x, o.a, o.c⟩, a, c⟩] :=
  RefI.of (g := ⟨l.set i ⟨x, o.a, o.c⟩, a, c⟩) (F := []) (by rw [show ((⟨l.set i ⟨x, o.a, o.c⟩, a, c⟩ : RI).l.map svR) = l.map svR from sv_set ho hx]; exact hT)
theorem set_mid {l : List OE} {i : Nat} {o q : OE} (ho : l[i]? = some o) : l.set i q = l.take i ++ q :: l.drop (i + 1) := by
  rw [List.set_eq_take_append_cons_drop, if_pos (List.getElem?_eq_some_iff.1 ho).1]
theorem put_ok {l : List OE} (h : SvOk l) {k : Nat} {q : OE} (hq : q.x.sv.length ≤ 9000) : SvOk (l.take k ++ q :: l.drop k) := fun o ho => by
  rcases List.mem_append.1 ho with h1 | h1
  · exact h o (List.mem_of_mem_take h1)
  · rcases List.mem_cons.1 h1 with rfl | h1
    · exact hq
    · exact h o (List.mem_of_mem_drop h1)
theorem trow_sv {w0 w : World} {L0 F : List Res} {q : OE} {a : Option Addr} {c : Nat} (h : Tr w0 L0 w (trow a c 9 K.encS q.x.sv :: F)) : Tr w0 L0 w (svR ⟨q.x, a, c⟩ :: F) := by
  unfold trow at h
  rw [strs_fl] at h
  exact h
theorem set_ok {l : List OE} (h : SvOk l) {i : Nat} {q : OE} (hq : q.x.sv.length ≤ 9000) : SvOk (l.take i ++ q :: l.drop (i + 1)) := fun o ho => by
  rcases List.mem_append.1 ho with h1 | h1
  · exact h o (List.mem_of_mem_take h1)
  · rcases List.mem_cons.1 h1 with rfl | h1
    · exact hq
    · exact h o (List.mem_of_mem_drop h1)
theorem ropen {r : Nat} {g : RI} {x : Res} {w0 w : World} {L0 : List Res} (hT : Tr w0 L0 w [RefI r g, x]) : Tr w0 L0 w [cl r 68 [.slice g.a g.l.length g.c], trow g.a g.c 33 encOE g.l, all (g.l.map svR), x] :=
  Tr.opened (l := g.L r) (F := [x]) hT
theorem rclose {r : Nat} {g : RI} {x : Res} {w0 w : World} {L0 : List Res} (hT : Tr w0 L0 w [cl r 68 [.slice g.a g.l.length g.c], trow g.a g.c 33 encOE g.l, all (g.l.map svR), x]) : Tr w0 L0 w [x, RefI r g] :=
  (RefI.of (F := [x]) hT).sub (by show K.Sub [x, RefI r g] _; exact K.sb)
theorem all_next {l : List OE} {q : OE} {F : List Res} {w0 w : World} {L0 : List Res} (hT : Tr w0 L0 w (svR q :: all (l.map svR) :: F)) : Tr w0 L0 w (all ((l ++ [q]).map svR) :: F) := by
  have h1 := sv_put (k := l.length) hT
  rw [List.take_length, List.drop_length] at h1
  exact h1
theorem all_close {r : Nat} {g : RI} {x y : Res} {w0 w : World} {L0 : List Res} (hT : Tr w0 L0 w [cl r 68 [.slice g.a g.l.length g.c], trow g.a g.c 33 encOE g.l, all (g.l.map svR), x, y]) : Tr w0 L0 w [x, y, RefI r g] :=
  (RefI.of (F := [x, y]) hT).sub (by show K.Sub [x, y, RefI r g] _; exact K.sb)
theorem take_next {l : List OE} {i : Nat} {q : OE} (hq : l[i]? = some q) : (l.take (i + 1)).map OE.x = (l.take i).map OE.x ++ [q.x] := by
  rw [List.take_add_one, hq, Option.toList_some, List.map_append]; rfl
theorem ins_eq (l : List OE) (k : Nat) (o : OE) : [] ++ l.take k ++ [o] ++ l.drop k = l.take k ++ o :: l.drop k := by simp
abbrev aheadP (p q : EX) : Prop := p.at_ < q.at_ ∨ (p.at_ = q.at_ ∧ p.id < q.id)
theorem ins_map {l : List OE} {k : Nat} {o : OE} : (l.take k ++ o :: l.drop k).map OE.x = (l.map OE.x).take k ++ o.x :: (l.map OE.x).drop k := by
  rw [List.map_append, List.map_cons, List.map_take, List.map_drop]
theorem map_at {l : List OE} {k : Nat} {o : OE} (h : l[k]? = some o) : (l.map OE.x)[k]? = some o.x := by rw [List.getElem?_map, h]; rfl
abbrev inS (l : List EX) (s : Int) (i : Nat) : List EX := sortX EX.at_ EX.id ((l.take i).filter fun y => decide (y.seq = s))
theorem inS_len (l : List EX) (s : Int) (i : Nat) : (inS l s i).length ≤ i := by
  unfold inS sortX
  rw [List.length_mergeSort]
  exact Nat.le_trans (List.length_filter_le _ _) (by rw [List.length_take]; omega)
theorem inS_zero (l : List EX) (s : Int) : inS l s 0 = [] := by
  apply List.length_eq_zero_iff.1
  have := inS_len l s 0
  omega
theorem ids_next {l : List OE} {i : Nat} {q : OE} (hq : l[i]? = some q) : (l.take (i + 1)).map (fun o => o.x.id) = (l.take i).map (fun o => o.x.id) ++ [q.x.id] := by
  rw [List.take_add_one, hq, Option.toList_some, List.map_append]; rfl

/- turntable/entry.New -/
theorem xnew_con {w : World} :
    Calls Try.prog 10 #[] w fun e w' => ∃ d' : Nat, ∃ g' : IG, e = .returned (.pointer (some ⟨ d', 0, none⟩)) ∧ g'.Ok ∧ g'.ents = [] ∧ Tr w [] w' [IdxR d' g'] := by
  exact new_con.mono fun e w' ⟨d, gx, h1, h2, h3, h4⟩ => ⟨d, gx, h1, h2, h3, h4⟩
section
variable {ops : Array Oper} {Q : Exit → Act → World → Prop} {N : Nat} {U : Env} {w0 : World} {L0 L F : List Res} {ty : TypeId} {rest : List Oper} {pos : String} {after : Array Edge} {xs : List Operand} {tys : Array TypeId} {dT : Tmp}
theorem gl_xnew_con (hf : ∀ args w, (callFunc 10 args).run Try.prog w = .ok (.enter 10 args) w) (hx : opvs U xs = some []) (hd : Nat.ble (dT + 1) N = true)
    (hr : ∀ (d' : Nat) (g' : IG), g'.Ok → g'.ents = [] → GL Try.prog ops Q rest N ((dT, .pointer (some ⟨ d', 0, none⟩)) :: U) w0 L0 (IdxR d' g' :: L)) : GL Try.prog ops Q (⟨some dT, .call ⟨.value (.func 10), xs.toArray, tys⟩, ty, pos, after, Option.none⟩ :: rest) N U w0 L0 L :=
  GL.callM (α := (Nat) × (IG)) (l := []) (Pv := fun y v => v = .pointer (some ⟨ y.1, 0, none⟩) ∧ y.2.Ok ∧ y.2.ents = []) (l' := fun y => [IdxR y.1 y.2]) hf hx (Sub.refl _)
    (fun w hT => by
      exact (xnew_con ).mono fun e w' ⟨d', g', h1, g0, g1, h2⟩ => ⟨(d', g'), _, h1, ⟨rfl, g0, g1⟩, h2⟩) hd fun y v hv => by obtain ⟨rfl, g0, g1⟩ := hv; exact hr y.1 y.2 g0 g1
end
/- (*turntable/entry.Index).Put -/
theorem xput_con {d : Nat} {gx : IG} {x : EX} {a : Option Addr} {c : Nat} {w : World} (hk : gx.Ok) (hi : I64 x.id) (hs : x.sv.length ≤ 9000) [Old w [IdxR d gx] a (K.encS) (x.sv)] (hd : Disj [IdxR d gx]) (ho : ∀ r ∈ ([IdxR d gx] : List Res), r.ok w.heap) :
    Calls Try.prog 17 #[.pointer (some ⟨d, 0, none⟩), .agg (encE x a c).toArray] w fun e w' => ∃ g' : IG, e = .returned (.bool (xget x.id gx.ents).isSome) ∧ g'.Ok ∧ g'.ents = xput x gx.ents ∧ Tr w [IdxR d gx] w' [IdxR d g'] := by
  have hS : Old w [IdxR d gx] a K.encS x.sv := inferInstance
  have h1 := hS.sl
  rw [strs_fl] at h1
  exact (put_con hk x (ho _ List.mem_cons_self) h1 (fun h0 => hS.ap (by intro e; rw [e] at h0; exact absurd h0 (by decide)) _ List.mem_cons_self) hi hs).mono fun e w' ⟨y, h1, h2, h3, h4⟩ => ⟨y, h1, h2, h3, h4⟩
section
variable {ops : Array Oper} {Q : Exit → Act → World → Prop} {N : Nat} {U : Env} {w0 : World} {L0 L F : List Res} {ty : TypeId} {rest : List Oper} {pos : String} {after : Array Edge} {xs : List Operand} {tys : Array TypeId} {dT : Tmp}
theorem gl_xput_con {d : Nat} {gx : IG} {x : EX} {a : Option Addr} {c : Nat}  {F1 : List Res}(hf : ∀ args w, (callFunc 17 args).run Try.prog w = .ok (.enter 17 args) w) (hx : opvs U xs = some [.pointer (some ⟨d, 0, none⟩), .agg (encE x a c).toArray]) [p1 : PkX L d gx F1] (hk : gx.Ok) (hi : I64 x.id) (hs : x.sv.length ≤ 9000) [o0 : RdC w0 L0 [IdxR d gx] F1 a (K.encS) (x.sv)] (hd : Nat.ble (dT + 1) N = true)
    (hr : ∀ (g' : IG), g'.Ok → g'.ents = xput x gx.ents → GL Try.prog ops Q rest N ((dT, .bool (xget x.id gx.ents).isSome) :: U) w0 L0 (IdxR d g' :: F1)) : GL Try.prog ops Q (⟨some dT, .call ⟨.value (.func 17), xs.toArray, tys⟩, ty, pos, after, Option.none⟩ :: rest) N U w0 L0 L :=
  GL.callM (α := (IG)) (l := [IdxR d gx]) (Pv := fun y v => v = .bool (xget x.id gx.ents).isSome ∧ y.Ok ∧ y.ents = xput x gx.ents) (l' := fun y => [IdxR d y]) hf hx (p1.out)
    (fun w hT => by
      have hT1 : Tr w0 L0 w ([IdxR d gx] ++ F1) := hT.sub (p1.out); have _o0 := o0.out w hT1; have hd0 := Disj.left hT1.disj; have ho0 := fun r hr => hT1.ok r (List.mem_append_left _ hr); exact (xput_con hk hi hs hd0 ho0).mono fun e w' ⟨g', h1, g0, g1, h2⟩ => ⟨(g'), _, h1, ⟨rfl, g0, g1⟩, h2⟩) hd fun y v hv => by obtain ⟨rfl, g0, g1⟩ := hv; exact hr y g0 g1
end
/- (*turntable/entry.Index).Pin -/
theorem xpin_con {d : Nat} {gx : IG} {k : Int} {is : Bool} {w : World} (hk : gx.Ok) (hd : Disj [IdxR d gx]) (ho : ∀ r ∈ ([IdxR d gx] : List Res), r.ok w.heap) :
    Calls Try.prog 14 #[.pointer (some ⟨d, 0, none⟩), .int .i64 k, .bool is] w fun e w' => ∃ g' : IG, e = .returned (.bool (xget k gx.ents).isSome) ∧ g'.Ok ∧ g'.ents = xmod k (pinF is) gx.ents ∧ Tr w [IdxR d gx] w' [IdxR d g'] := by
  exact (pin_con hk k is (ho _ List.mem_cons_self)).mono fun e w' ⟨y, h1, h2, h3, h4⟩ => ⟨y, h1, h2, h3, h4⟩
section
variable {ops : Array Oper} {Q : Exit → Act → World → Prop} {N : Nat} {U : Env} {w0 : World} {L0 L F : List Res} {ty : TypeId} {rest : List Oper} {pos : String} {after : Array Edge} {xs : List Operand} {tys : Array TypeId} {dT : Tmp}
theorem gl_xpin_con {d : Nat} {gx : IG} {k : Int} {is : Bool}  {F1 : List Res}(hf : ∀ args w, (callFunc 14 args).run Try.prog w = .ok (.enter 14 args) w) (hx : opvs U xs = some [.pointer (some ⟨d, 0, none⟩), .int .i64 k, .bool is]) [p1 : PkX L d gx F1] (hk : gx.Ok) (hd : Nat.ble (dT + 1) N = true)
    (hr : ∀ (g' : IG), g'.Ok → g'.ents = xmod k (pinF is) gx.ents → GL Try.prog ops Q rest N ((dT, .bool (xget k gx.ents).isSome) :: U) w0 L0 (IdxR d g' :: F1)) : GL Try.prog ops Q (⟨some dT, .call ⟨.value (.func 14), xs.toArray, tys⟩, ty, pos, after, Option.none⟩ :: rest) N U w0 L0 L :=
  GL.callM (α := (IG)) (l := [IdxR d gx]) (Pv := fun y v => v = .bool (xget k gx.ents).isSome ∧ y.Ok ∧ y.ents = xmod k (pinF is) gx.ents) (l' := fun y => [IdxR d y]) hf hx (p1.out)
    (fun w hT => by
      have hT1 : Tr w0 L0 w ([IdxR d gx] ++ F1) := hT.sub (p1.out); have hd0 := Disj.left hT1.disj; have ho0 := fun r hr => hT1.ok r (List.mem_append_left _ hr); exact (xpin_con hk hd0 ho0).mono fun e w' ⟨g', h1, g0, g1, h2⟩ => ⟨(g'), _, h1, ⟨rfl, g0, g1⟩, h2⟩) hd fun y v hv => by obtain ⟨rfl, g0, g1⟩ := hv; exact hr y g0 g1
end
/- (*turntable/entry.Index).Class -/
theorem xclass_con {d : Nat} {gx : IG} {k : Int} {cls : Int} {w : World} (hk : gx.Ok) (hd : Disj [IdxR d gx]) (ho : ∀ r ∈ ([IdxR d gx] : List Res), r.ok w.heap) :
    Calls Try.prog 15 #[.pointer (some ⟨d, 0, none⟩), .int .i64 k, .int .i64 cls] w fun e w' => ∃ g' : IG, e = .returned (.bool (xget k gx.ents).isSome) ∧ g'.Ok ∧ g'.ents = xmod k (clsF cls) gx.ents ∧ Tr w [IdxR d gx] w' [IdxR d g'] := by
  exact (class_con hk k cls (ho _ List.mem_cons_self)).mono fun e w' ⟨y, h1, h2, h3, h4⟩ => ⟨y, h1, h2, h3, h4⟩
section
variable {ops : Array Oper} {Q : Exit → Act → World → Prop} {N : Nat} {U : Env} {w0 : World} {L0 L F : List Res} {ty : TypeId} {rest : List Oper} {pos : String} {after : Array Edge} {xs : List Operand} {tys : Array TypeId} {dT : Tmp}
theorem gl_xclass_con {d : Nat} {gx : IG} {k : Int} {cls : Int}  {F1 : List Res}(hf : ∀ args w, (callFunc 15 args).run Try.prog w = .ok (.enter 15 args) w) (hx : opvs U xs = some [.pointer (some ⟨d, 0, none⟩), .int .i64 k, .int .i64 cls]) [p1 : PkX L d gx F1] (hk : gx.Ok) (hd : Nat.ble (dT + 1) N = true)
    (hr : ∀ (g' : IG), g'.Ok → g'.ents = xmod k (clsF cls) gx.ents → GL Try.prog ops Q rest N ((dT, .bool (xget k gx.ents).isSome) :: U) w0 L0 (IdxR d g' :: F1)) : GL Try.prog ops Q (⟨some dT, .call ⟨.value (.func 15), xs.toArray, tys⟩, ty, pos, after, Option.none⟩ :: rest) N U w0 L0 L :=
  GL.callM (α := (IG)) (l := [IdxR d gx]) (Pv := fun y v => v = .bool (xget k gx.ents).isSome ∧ y.Ok ∧ y.ents = xmod k (clsF cls) gx.ents) (l' := fun y => [IdxR d y]) hf hx (p1.out)
    (fun w hT => by
      have hT1 : Tr w0 L0 w ([IdxR d gx] ++ F1) := hT.sub (p1.out); have hd0 := Disj.left hT1.disj; have ho0 := fun r hr => hT1.ok r (List.mem_append_left _ hr); exact (xclass_con hk hd0 ho0).mono fun e w' ⟨g', h1, g0, g1, h2⟩ => ⟨(g'), _, h1, ⟨rfl, g0, g1⟩, h2⟩) hd fun y v hv => by obtain ⟨rfl, g0, g1⟩ := hv; exact hr y g0 g1
end
/- (*turntable/entry.Index).Move -/
theorem xmove_con {d : Nat} {gx : IG} {k : Int} {seq at_ size : Int} {w : World} (hk : gx.Ok) (hd : Disj [IdxR d gx]) (ho : ∀ r ∈ ([IdxR d gx] : List Res), r.ok w.heap) :
    Calls Try.prog 16 #[.pointer (some ⟨d, 0, none⟩), .int .i64 k, .int .i64 seq, .int .i64 at_, .int .i64 size] w fun e w' => ∃ g' : IG, e = .returned (.bool (xget k gx.ents).isSome) ∧ g'.Ok ∧ g'.ents = xmod k (movF seq at_ size) gx.ents ∧ Tr w [IdxR d gx] w' [IdxR d g'] := by
  exact (move_con hk k seq at_ size (ho _ List.mem_cons_self)).mono fun e w' ⟨y, h1, h2, h3, h4⟩ => ⟨y, h1, h2, h3, h4⟩
section
variable {ops : Array Oper} {Q : Exit → Act → World → Prop} {N : Nat} {U : Env} {w0 : World} {L0 L F : List Res} {ty : TypeId} {rest : List Oper} {pos : String} {after : Array Edge} {xs : List Operand} {tys : Array TypeId} {dT : Tmp}
theorem gl_xmove_con {d : Nat} {gx : IG} {k : Int} {seq at_ size : Int}  {F1 : List Res}(hf : ∀ args w, (callFunc 16 args).run Try.prog w = .ok (.enter 16 args) w) (hx : opvs U xs = some [.pointer (some ⟨d, 0, none⟩), .int .i64 k, .int .i64 seq, .int .i64 at_, .int .i64 size]) [p1 : PkX L d gx F1] (hk : gx.Ok) (hd : Nat.ble (dT + 1) N = true)
    (hr : ∀ (g' : IG), g'.Ok → g'.ents = xmod k (movF seq at_ size) gx.ents → GL Try.prog ops Q rest N ((dT, .bool (xget k gx.ents).isSome) :: U) w0 L0 (IdxR d g' :: F1)) : GL Try.prog ops Q (⟨some dT, .call ⟨.value (.func 16), xs.toArray, tys⟩, ty, pos, after, Option.none⟩ :: rest) N U w0 L0 L :=
  GL.callM (α := (IG)) (l := [IdxR d gx]) (Pv := fun y v => v = .bool (xget k gx.ents).isSome ∧ y.Ok ∧ y.ents = xmod k (movF seq at_ size) gx.ents) (l' := fun y => [IdxR d y]) hf hx (p1.out)
    (fun w hT => by
      have hT1 : Tr w0 L0 w ([IdxR d gx] ++ F1) := hT.sub (p1.out); have hd0 := Disj.left hT1.disj; have ho0 := fun r hr => hT1.ok r (List.mem_append_left _ hr); exact (xmove_con hk hd0 ho0).mono fun e w' ⟨g', h1, g0, g1, h2⟩ => ⟨(g'), _, h1, ⟨rfl, g0, g1⟩, h2⟩) hd fun y v hv => by obtain ⟨rfl, g0, g1⟩ := hv; exact hr y g0 g1
end
/- (*turntable/entry.Index).Del -/
theorem xdel_con {d : Nat} {gx : IG} {k : Int} {w : World} (hk : gx.Ok) (hd : Disj [IdxR d gx]) (ho : ∀ r ∈ ([IdxR d gx] : List Res), r.ok w.heap) :
    Calls Try.prog 13 #[.pointer (some ⟨d, 0, none⟩), .int .i64 k] w fun e w' => ∃ g' : IG, e = .returned (.bool (xget k gx.ents).isSome) ∧ g'.Ok ∧ g'.ents = xdel k gx.ents ∧ Tr w [IdxR d gx] w' [IdxR d g'] := by
  exact (del_con hk k  (ho _ List.mem_cons_self)).mono fun e w' ⟨y, h1, h2, h3, h4⟩ => ⟨y, h1, h2, h3, h4⟩
section
variable {ops : Array Oper} {Q : Exit → Act → World → Prop} {N : Nat} {U : Env} {w0 : World} {L0 L F : List Res} {ty : TypeId} {rest : List Oper} {pos : String} {after : Array Edge} {xs : List Operand} {tys : Array TypeId} {dT : Tmp}
theorem gl_xdel_con {d : Nat} {gx : IG} {k : Int}  {F1 : List Res}(hf : ∀ args w, (callFunc 13 args).run Try.prog w = .ok (.enter 13 args) w) (hx : opvs U xs = some [.pointer (some ⟨d, 0, none⟩), .int .i64 k]) [p1 : PkX L d gx F1] (hk : gx.Ok) (hd : Nat.ble (dT + 1) N = true)
    (hr : ∀ (g' : IG), g'.Ok → g'.ents = xdel k gx.ents → GL Try.prog ops Q rest N ((dT, .bool (xget k gx.ents).isSome) :: U) w0 L0 (IdxR d g' :: F1)) : GL Try.prog ops Q (⟨some dT, .call ⟨.value (.func 13), xs.toArray, tys⟩, ty, pos, after, Option.none⟩ :: rest) N U w0 L0 L :=
  GL.callM (α := (IG)) (l := [IdxR d gx]) (Pv := fun y v => v = .bool (xget k gx.ents).isSome ∧ y.Ok ∧ y.ents = xdel k gx.ents) (l' := fun y => [IdxR d y]) hf hx (p1.out)
    (fun w hT => by
      have hT1 : Tr w0 L0 w ([IdxR d gx] ++ F1) := hT.sub (p1.out); have hd0 := Disj.left hT1.disj; have ho0 := fun r hr => hT1.ok r (List.mem_append_left _ hr); exact (xdel_con hk hd0 ho0).mono fun e w' ⟨g', h1, g0, g1, h2⟩ => ⟨(g'), _, h1, ⟨rfl, g0, g1⟩, h2⟩) hd fun y v hv => by obtain ⟨rfl, g0, g1⟩ := hv; exact hr y g0 g1
end
/- (*turntable/entry.Index).Many -/
theorem xmany_con {d : Nat} {gx : IG} {w : World} (ho : (IdxR d gx).ok w.heap) :
    Calls Try.prog 26 #[.pointer (some ⟨d, 0, none⟩)] w fun e w' => e = .returned (.int .i64 gx.ents.length) ∧ Tr w [] w' [] := by
  exact many_con ho
section
variable {ops : Array Oper} {Q : Exit → Act → World → Prop} {N : Nat} {U : Env} {w0 : World} {L0 L F : List Res} {ty : TypeId} {rest : List Oper} {pos : String} {after : Array Edge} {xs : List Operand} {tys : Array TypeId} {dT : Tmp}
theorem ev_xmany_con {d : Nat} {gx : IG} (hf : ∀ args w, (callFunc 26 args).run Try.prog w = .ok (.enter 26 args) w) (hx : opvs U xs = some [.pointer (some ⟨d, 0, none⟩)]) [i0 : InX w0 L0 L d gx] : Ev Try.prog U w0 L0 L (.call ⟨.value (.func 26), xs.toArray, tys⟩) ty (Is (.int .i64 gx.ents.length)) No :=
  K.e_call1 hf hx (fun w hT => by exact xmany_con (i0.out w hT))
end
/- (*turntable/entry.Index).Get -/
theorem xgt_con {d : Nat} {gx : IG} {k : Int} {w : World} (hk : gx.Ok) (ho : (IdxR d gx).ok w.heap) :
    Calls Try.prog 12 #[.pointer (some ⟨d, 0, none⟩), .int .i64 k] w fun e w' => ∃ a' : Option Addr, ∃ c' : Nat, e = .returned (.tuple #[.agg (encE ((xget k gx.ents).getD EX.zero) a' c').toArray, .bool (xget k gx.ents).isSome]) ∧ Tr w [] w' [trow a' c' 9 K.encS ((xget k gx.ents).getD EX.zero).sv] := by
  refine (get_con hk k ho).mono fun e w' ⟨a, c, h1, h2⟩ => ⟨a, c, h1, ?_⟩
  unfold trow
  rw [strs_fl]
  exact h2
section
variable {ops : Array Oper} {Q : Exit → Act → World → Prop} {N : Nat} {U : Env} {w0 : World} {L0 L F : List Res} {ty : TypeId} {rest : List Oper} {pos : String} {after : Array Edge} {xs : List Operand} {tys : Array TypeId} {dT : Tmp}
theorem gl_xgt_con {d : Nat} {gx : IG} {k : Int} (hf : ∀ args w, (callFunc 12 args).run Try.prog w = .ok (.enter 12 args) w) (hx : opvs U xs = some [.pointer (some ⟨d, 0, none⟩), .int .i64 k]) (hk : gx.Ok) [i0 : InX w0 L0 L d gx] (hd : Nat.ble (dT + 1) N = true)
    (hr : ∀ (a' : Option Addr) (c' : Nat), GL Try.prog ops Q rest N ((dT, .tuple #[.agg (encE ((xget k gx.ents).getD EX.zero) a' c').toArray, .bool (xget k gx.ents).isSome]) :: U) w0 L0 (trow a' c' 9 K.encS ((xget k gx.ents).getD EX.zero).sv :: L)) : GL Try.prog ops Q (⟨some dT, .call ⟨.value (.func 12), xs.toArray, tys⟩, ty, pos, after, Option.none⟩ :: rest) N U w0 L0 L :=
  GL.callM (α := (Option Addr) × (Nat)) (l := []) (Pv := fun y v => v = .tuple #[.agg (encE ((xget k gx.ents).getD EX.zero) y.1 y.2).toArray, .bool (xget k gx.ents).isSome]) (l' := fun y => [trow y.1 y.2 9 K.encS ((xget k gx.ents).getD EX.zero).sv]) hf hx (Sub.refl _)
    (fun w hT => by
      exact (xgt_con hk (i0.out w hT)).mono fun e w' ⟨a', c', h1, h2⟩ => ⟨(a', c'), _, h1, rfl, h2⟩) hd fun y v hv => by subst hv; exact hr y.1 y.2 
end
section
variable {ops : Array Oper} {Q : Exit → Act → World → Prop} {N : Nat} {U : Env} {w0 : World} {L0 L F : List Res} {ty : TypeId} {rest : List Oper} {pos : String} {after : Array Edge} {xs : List Operand} {tys : Array TypeId} {dT : Tmp}
theorem em_xgt_con {d : Nat} {gx : IG} {k : Int} (hf : ∀ args w, (callFunc 12 args).run Try.prog w = .ok (.enter 12 args) w) (hx : opvs U xs = some [.pointer (some ⟨d, 0, none⟩), .int .i64 k]) (hk : gx.Ok) [i0 : InX w0 L0 L d gx] : K.D.EvM Try.prog U w0 L0 L [] (.call ⟨.value (.func 12), xs.toArray, tys⟩) ty (fun g => .tuple #[.agg (encE ((xget k gx.ents).getD EX.zero) (g 0).1 (g 0).2).toArray, .bool (xget k gx.ents).isSome]) (fun g => True) (fun g => trow (g 0).1 (g 0).2 9 K.encS ((xget k gx.ents).getD EX.zero).sv) :=
  K.D.em_call hf hx fun w hT => by
    have hT1 := hT; exact (xgt_con hk (i0.out w hT)).mono fun e w' ⟨a', c', h1, h2⟩ => ⟨fun i => (a', c'), h1, trivial, h2⟩
end
/- (*turntable/entry.Index).In -/
theorem xin_con {d : Nat} {gx : IG} {k : Int} {w : World} (hk : gx.Ok) (hz : gx.es.length ≤ 9000) (ho : (IdxR d gx).ok w.heap) :
    Calls Try.prog 29 #[.pointer (some ⟨d, 0, none⟩), .int .i64 k] w fun e w' => ∃ a' : Option Addr, ∃ c' : Nat, e = .returned (.slice a' ((gx.in_ k).map EX.id).length c') ∧ Tr w [] w' [trow a' c' 2 (K.encI .i64) ((gx.in_ k).map EX.id)] := by
  refine (In_con hk hz k ho).mono fun e w' ⟨a, c, h1, h2⟩ => ⟨a, c, by rw [h1, List.length_map], ?_⟩
  unfold trow
  rw [idsV_fl]
  exact h2
section
variable {ops : Array Oper} {Q : Exit → Act → World → Prop} {N : Nat} {U : Env} {w0 : World} {L0 L F : List Res} {ty : TypeId} {rest : List Oper} {pos : String} {after : Array Edge} {xs : List Operand} {tys : Array TypeId} {dT : Tmp}
theorem gl_xin_con {d : Nat} {gx : IG} {k : Int} (hf : ∀ args w, (callFunc 29 args).run Try.prog w = .ok (.enter 29 args) w) (hx : opvs U xs = some [.pointer (some ⟨d, 0, none⟩), .int .i64 k]) (hk : gx.Ok) (hz : gx.es.length ≤ 9000) [i0 : InX w0 L0 L d gx] (hd : Nat.ble (dT + 1) N = true)
    (hr : ∀ (a' : Option Addr) (c' : Nat), GL Try.prog ops Q rest N ((dT, .slice a' ((gx.in_ k).map EX.id).length c') :: U) w0 L0 (trow a' c' 2 (K.encI .i64) ((gx.in_ k).map EX.id) :: L)) : GL Try.prog ops Q (⟨some dT, .call ⟨.value (.func 29), xs.toArray, tys⟩, ty, pos, after, Option.none⟩ :: rest) N U w0 L0 L :=
  GL.callM (α := (Option Addr) × (Nat)) (l := []) (Pv := fun y v => v = .slice y.1 ((gx.in_ k).map EX.id).length y.2) (l' := fun y => [trow y.1 y.2 2 (K.encI .i64) ((gx.in_ k).map EX.id)]) hf hx (Sub.refl _)
    (fun w hT => by
      exact (xin_con hk hz (i0.out w hT)).mono fun e w' ⟨a', c', h1, h2⟩ => ⟨(a', c'), _, h1, rfl, h2⟩) hd fun y v hv => by subst hv; exact hr y.1 y.2 
end
section
variable {ops : Array Oper} {Q : Exit → Act → World → Prop} {N : Nat} {U : Env} {w0 : World} {L0 L F : List Res} {ty : TypeId} {rest : List Oper} {pos : String} {after : Array Edge} {xs : List Operand} {tys : Array TypeId} {dT : Tmp}
theorem em_xin_con {d : Nat} {gx : IG} {k : Int} (hf : ∀ args w, (callFunc 29 args).run Try.prog w = .ok (.enter 29 args) w) (hx : opvs U xs = some [.pointer (some ⟨d, 0, none⟩), .int .i64 k]) (hk : gx.Ok) (hz : gx.es.length ≤ 9000) [i0 : InX w0 L0 L d gx] : K.D.EvM Try.prog U w0 L0 L [] (.call ⟨.value (.func 29), xs.toArray, tys⟩) ty (fun g => .slice (g 0).1 ((gx.in_ k).map EX.id).length (g 0).2) (fun g => True) (fun g => trow (g 0).1 (g 0).2 2 (K.encI .i64) ((gx.in_ k).map EX.id)) :=
  K.D.em_call hf hx fun w hT => by
    have hT1 := hT; exact (xin_con hk hz (i0.out w hT)).mono fun e w' ⟨a', c', h1, h2⟩ => ⟨fun i => (a', c'), h1, trivial, h2⟩
end
/- (*turntable/entry.Index).All -/
theorem xall_con {d : Nat} {gx : IG} {w : World} (hk : gx.Ok) (hz : gx.es.length ≤ 9000) (ho : (IdxR d gx).ok w.heap) :
    Calls Try.prog 32 #[.pointer (some ⟨d, 0, none⟩)] w fun e w' => ∃ l' : List OE, ∃ a' : Option Addr, ∃ c' : Nat, e = .returned (.slice a' l'.length c') ∧ l'.map OE.x = gx.all ∧ Tr w [] w' [trow a' c' 33 encOE l', all (l'.map svR)] := by
  exact (All_con hk hz ho).mono fun e w' ⟨l, h0, a, c, h1, h2⟩ => ⟨l, a, c, h1, h0, h2⟩
section
variable {ops : Array Oper} {Q : Exit → Act → World → Prop} {N : Nat} {U : Env} {w0 : World} {L0 L F : List Res} {ty : TypeId} {rest : List Oper} {pos : String} {after : Array Edge} {xs : List Operand} {tys : Array TypeId} {dT : Tmp}
theorem gl_xall_con {d : Nat} {gx : IG} (hf : ∀ args w, (callFunc 32 args).run Try.prog w = .ok (.enter 32 args) w) (hx : opvs U xs = some [.pointer (some ⟨d, 0, none⟩)]) (hk : gx.Ok) (hz : gx.es.length ≤ 9000) [i0 : InX w0 L0 L d gx] (hd : Nat.ble (dT + 1) N = true)
    (hr : ∀ (l' : List OE) (a' : Option Addr) (c' : Nat), l'.map OE.x = gx.all → GL Try.prog ops Q rest N ((dT, .slice a' l'.length c') :: U) w0 L0 (trow a' c' 33 encOE l' :: all (l'.map svR) :: L)) : GL Try.prog ops Q (⟨some dT, .call ⟨.value (.func 32), xs.toArray, tys⟩, ty, pos, after, Option.none⟩ :: rest) N U w0 L0 L :=
  GL.callM (α := (List OE) × (Option Addr) × (Nat)) (l := []) (Pv := fun y v => v = .slice y.2.1 y.1.length y.2.2 ∧ y.1.map OE.x = gx.all) (l' := fun y => [trow y.2.1 y.2.2 33 encOE y.1, all (y.1.map svR)]) hf hx (Sub.refl _)
    (fun w hT => by
      exact (xall_con hk hz (i0.out w hT)).mono fun e w' ⟨l', a', c', h1, g0, h2⟩ => ⟨(l', a', c'), _, h1, ⟨rfl, g0⟩, h2⟩) hd fun y v hv => by obtain ⟨rfl, g0⟩ := hv; exact hr y.1 y.2.1 y.2.2 g0
end
/- (*turntable/entry.Index).Items -/
theorem xitems_con {d : Nat} {gx : IG} {w : World} (hk : gx.Ok) (hz : gx.es.length ≤ 9000) (ho : (IdxR d gx).ok w.heap) :
    Calls Try.prog 35 #[.pointer (some ⟨d, 0, none⟩)] w fun e w' => ∃ a' : Option Addr, ∃ c' : Nat, e = .returned (.slice a' gx.all.length c') ∧ Tr w [] w' [trow a' c' 28 encIt gx.all] := by
  exact (Items_con hk hz ho).mono fun e w' ⟨a, c, h1, h2⟩ => ⟨a, c, h1, h2⟩
section
variable {ops : Array Oper} {Q : Exit → Act → World → Prop} {N : Nat} {U : Env} {w0 : World} {L0 L F : List Res} {ty : TypeId} {rest : List Oper} {pos : String} {after : Array Edge} {xs : List Operand} {tys : Array TypeId} {dT : Tmp}
theorem gl_xitems_con {d : Nat} {gx : IG} (hf : ∀ args w, (callFunc 35 args).run Try.prog w = .ok (.enter 35 args) w) (hx : opvs U xs = some [.pointer (some ⟨d, 0, none⟩)]) (hk : gx.Ok) (hz : gx.es.length ≤ 9000) [i0 : InX w0 L0 L d gx] (hd : Nat.ble (dT + 1) N = true)
    (hr : ∀ (a' : Option Addr) (c' : Nat), GL Try.prog ops Q rest N ((dT, .slice a' gx.all.length c') :: U) w0 L0 (trow a' c' 28 encIt gx.all :: L)) : GL Try.prog ops Q (⟨some dT, .call ⟨.value (.func 35), xs.toArray, tys⟩, ty, pos, after, Option.none⟩ :: rest) N U w0 L0 L :=
  GL.callM (α := (Option Addr) × (Nat)) (l := []) (Pv := fun y v => v = .slice y.1 gx.all.length y.2) (l' := fun y => [trow y.1 y.2 28 encIt gx.all]) hf hx (Sub.refl _)
    (fun w hT => by
      exact (xitems_con hk hz (i0.out w hT)).mono fun e w' ⟨a', c', h1, h2⟩ => ⟨(a', c'), _, h1, rfl, h2⟩) hd fun y v hv => by subst hv; exact hr y.1 y.2 
end
section
variable {ops : Array Oper} {Q : Exit → Act → World → Prop} {N : Nat} {U : Env} {w0 : World} {L0 L F : List Res} {ty : TypeId} {rest : List Oper} {pos : String} {after : Array Edge} {xs : List Operand} {tys : Array TypeId} {dT : Tmp}
theorem em_xitems_con {d : Nat} {gx : IG} (hf : ∀ args w, (callFunc 35 args).run Try.prog w = .ok (.enter 35 args) w) (hx : opvs U xs = some [.pointer (some ⟨d, 0, none⟩)]) (hk : gx.Ok) (hz : gx.es.length ≤ 9000) [i0 : InX w0 L0 L d gx] : K.D.EvM Try.prog U w0 L0 L [] (.call ⟨.value (.func 35), xs.toArray, tys⟩) ty (fun g => .slice (g 0).1 gx.all.length (g 0).2) (fun g => True) (fun g => trow (g 0).1 (g 0).2 28 encIt gx.all) :=
  K.D.em_call hf hx fun w hT => by
    have hT1 := hT; exact (xitems_con hk hz (i0.out w hT)).mono fun e w' ⟨a', c', h1, h2⟩ => ⟨fun i => (a', c'), h1, trivial, h2⟩
end
/- turntable/turntableref14.SameEntry -/
theorem xsame_con {x y : EX} {a b : Option Addr} {ca cb : Nat} {w : World} (hn : x.sv.length < 9223372036854775807) [Old w [] a (K.encS) (x.sv)] [Old w [] b (K.encS) (y.sv)] :
    Calls Try.prog 18 #[.agg (encE x a ca).toArray, .agg (encE y b cb).toArray] w fun e w' => e = .returned (.bool (decide (x = y))) ∧ Tr w [] w' [] := by
  have hA : Old w [] a K.encS x.sv := inferInstance
  have hB : Old w [] b K.encS y.sv := inferInstance
  have h1 := hA.sl
  have h2 := hB.sl
  rw [strs_fl] at h1 h2
  exact same_con h1 h2 hn
section
variable {ops : Array Oper} {Q : Exit → Act → World → Prop} {N : Nat} {U : Env} {w0 : World} {L0 L F : List Res} {ty : TypeId} {rest : List Oper} {pos : String} {after : Array Edge} {xs : List Operand} {tys : Array TypeId} {dT : Tmp}
theorem ev_xsame_con {x y : EX} {a b : Option Addr} {ca cb : Nat} (hf : ∀ args w, (callFunc 18 args).run Try.prog w = .ok (.enter 18 args) w) (hx : opvs U xs = some [.agg (encE x a ca).toArray, .agg (encE y b cb).toArray]) (hn : x.sv.length < 9223372036854775807) [o0 : RdC w0 L0 [] L a (K.encS) (x.sv)] [o1 : RdC w0 L0 [] L b (K.encS) (y.sv)] : Ev Try.prog U w0 L0 L (.call ⟨.value (.func 18), xs.toArray, tys⟩) ty (Is (.bool (decide (x = y)))) No :=
  K.e_call1 hf hx (fun w hT => by have _o0 := o0.out w hT; have _o1 := o1.out w hT; exact xsame_con hn)
end
/- turntable/turntableref06.SameIds -/
theorem xids_con {l k : List Int} {a b : Option Addr} {ca cb : Nat} {w : World} (hn : l.length < 9223372036854775807) [Old w [] a ((K.encI .i64)) (l)] [Old w [] b ((K.encI .i64)) (k)] :
    Calls Try.prog 28 #[.slice a l.length ca, .slice b k.length cb] w fun e w' => e = .returned (.bool (decide (l = k))) ∧ Tr w [] w' [] := by
  have hA : Old w [] a (K.encI .i64) l := inferInstance
  have hB : Old w [] b (K.encI .i64) k := inferInstance
  have h1 := hA.sl
  have h2 := hB.sl
  rw [intsV_fl] at h1 h2
  have h3 := ids_con (ca := ca) (cb := cb) h1 h2 hn
  simp only [List.map_id] at h3
  exact h3
section
variable {ops : Array Oper} {Q : Exit → Act → World → Prop} {N : Nat} {U : Env} {w0 : World} {L0 L F : List Res} {ty : TypeId} {rest : List Oper} {pos : String} {after : Array Edge} {xs : List Operand} {tys : Array TypeId} {dT : Tmp}
theorem ev_xids_con {l k : List Int} {a b : Option Addr} {ca cb : Nat} (hf : ∀ args w, (callFunc 28 args).run Try.prog w = .ok (.enter 28 args) w) (hx : opvs U xs = some [.slice a l.length ca, .slice b k.length cb]) (hn : l.length < 9223372036854775807) [o0 : RdC w0 L0 [] L a ((K.encI .i64)) (l)] [o1 : RdC w0 L0 [] L b ((K.encI .i64)) (k)] : Ev Try.prog U w0 L0 L (.call ⟨.value (.func 28), xs.toArray, tys⟩) ty (Is (.bool (decide (l = k)))) No :=
  K.e_call1 hf hx (fun w hT => by have _o0 := o0.out w hT; have _o1 := o1.out w hT; exact xids_con hn)
end
/- turntable/turntableref14.Same -/
theorem xentries_con {l k : List OE} {a b : Option Addr} {ca cb : Nat} {w : World} (h9 : ∀ o ∈ l, o.x.sv.length ≤ 9000) (hn : l.length < 9223372036854775807) (hsl : SvAt w l) (hsk : SvAt w k) [Old w [] a (encOE) (l)] [Old w [] b (encOE) (k)] :
    Calls Try.prog 31 #[.slice a l.length ca, .slice b k.length cb] w fun e w' => e = .returned (.bool (decide (l.map OE.x = k.map OE.x))) ∧ Tr w [] w' [] := by
  have hA : Old w [] a encOE l := inferInstance
  have hB : Old w [] b encOE k := inferInstance
  exact entries_con hA.sl hB.sl hsl hsk h9 hn
section
variable {ops : Array Oper} {Q : Exit → Act → World → Prop} {N : Nat} {U : Env} {w0 : World} {L0 L F : List Res} {ty : TypeId} {rest : List Oper} {pos : String} {after : Array Edge} {xs : List Operand} {tys : Array TypeId} {dT : Tmp}
theorem ev_xentries_con {l k : List OE} {a b : Option Addr} {ca cb : Nat} (hf : ∀ args w, (callFunc 31 args).run Try.prog w = .ok (.enter 31 args) w) (hx : opvs U xs = some [.slice a l.length ca, .slice b k.length cb]) (h9 : ∀ o ∈ l, o.x.sv.length ≤ 9000) (hn : l.length < 9223372036854775807) [o0 : RdC w0 L0 [] L a (encOE) (l)] [o1 : RdC w0 L0 [] L b (encOE) (k)] [i0 : InSv w0 L0 L l] [i1 : InSv w0 L0 L k] : Ev Try.prog U w0 L0 L (.call ⟨.value (.func 31), xs.toArray, tys⟩) ty (Is (.bool (decide (l.map OE.x = k.map OE.x)))) No :=
  K.e_call1 hf hx (fun w hT => by have _o0 := o0.out w hT; have _o1 := o1.out w hT; exact xentries_con h9 hn (i0.out w hT) (i1.out w hT))
end
/- turntable/turntableref06.Same -/
theorem xitm_con {l k : List EX} {a b : Option Addr} {ca cb : Nat} {w : World} (hn : l.length < 9223372036854775807) [Old w [] a (encIt) (l)] [Old w [] b (encIt) (k)] :
    Calls Try.prog 34 #[.slice a l.length ca, .slice b k.length cb] w fun e w' => e = .returned (.bool (decide (l.map itm = k.map itm))) ∧ Tr w [] w' [] := by
  have hA : Old w [] a encIt l := inferInstance
  have hB : Old w [] b encIt k := inferInstance
  exact items_con hA.sl hB.sl hn
section
variable {ops : Array Oper} {Q : Exit → Act → World → Prop} {N : Nat} {U : Env} {w0 : World} {L0 L F : List Res} {ty : TypeId} {rest : List Oper} {pos : String} {after : Array Edge} {xs : List Operand} {tys : Array TypeId} {dT : Tmp}
theorem ev_xitm_con {l k : List EX} {a b : Option Addr} {ca cb : Nat} (hf : ∀ args w, (callFunc 34 args).run Try.prog w = .ok (.enter 34 args) w) (hx : opvs U xs = some [.slice a l.length ca, .slice b k.length cb]) (hn : l.length < 9223372036854775807) [o0 : RdC w0 L0 [] L a (encIt) (l)] [o1 : RdC w0 L0 [] L b (encIt) (k)] : Ev Try.prog U w0 L0 L (.call ⟨.value (.func 34), xs.toArray, tys⟩) ty (Is (.bool (decide (l.map itm = k.map itm)))) No :=
  K.e_call1 hf hx (fun w hT => by have _o0 := o0.out w hT; have _o1 := o1.out w hT; exact xitm_con hn)
end
theorem lay68 : K.layout Try.prog 68 = some ([.slice none 0 0], [(0, 1)]) := by kernel_rfl
/- turntable/turntableref14.New -/
set_option maxHeartbeats 1000000 in
set_option maxRecDepth 100000 in
theorem rnew_con {w : World} :
    Calls Try.prog 19 #[] w fun e w' => ∃ r' : Nat, e = .returned (.pointer (some ⟨ r', 0, none⟩)) ∧ Tr w [] w' [RefI r' ⟨[], none, 0⟩] := by
  refine K.enter0 (args := []) Try.func19 rfl Try.ntmps19 rfl ?_
  refine K.GC.seq ?_
  refine K.GC.region ?_
  refine K.GL.det (K.e_assign rfl) rfl ?_
  refine K.GL.nil ?_
  refine K.GQ.go ?_
  refine K.GC.seq ?_
  refine K.GC.region ?_
  refine K.GL.det (K.e_build lay68 rfl) rfl ?_
  refine K.GL.box rfl rfl rfl (fun b2 => ?_)
  refine K.GL.det (K.e_assign rfl) rfl ?_
  refine K.GL.nil ?_
  refine K.GQ.go ?_
  refine K.GC.ret ?_
  refine K.GQ.ret1 Try.results19 rfl (fun w hT => ?_)
  exact ⟨b2, rfl, rnew_end hT⟩
section
variable {ops : Array Oper} {Q : Exit → Act → World → Prop} {N : Nat} {U : Env} {w0 : World} {L0 L F : List Res} {ty : TypeId} {rest : List Oper} {pos : String} {after : Array Edge} {xs : List Operand} {tys : Array TypeId} {dT : Tmp}
theorem gl_rnew_con (hf : ∀ args w, (callFunc 19 args).run Try.prog w = .ok (.enter 19 args) w) (hx : opvs U xs = some []) (hd : Nat.ble (dT + 1) N = true)
    (hr : ∀ (r' : Nat), GL Try.prog ops Q rest N ((dT, .pointer (some ⟨ r', 0, none⟩)) :: U) w0 L0 (RefI r' ⟨[], none, 0⟩ :: L)) : GL Try.prog ops Q (⟨some dT, .call ⟨.value (.func 19), xs.toArray, tys⟩, ty, pos, after, Option.none⟩ :: rest) N U w0 L0 L :=
  GL.callM (α := (Nat)) (l := []) (Pv := fun y v => v = .pointer (some ⟨ y, 0, none⟩)) (l' := fun y => [RefI y ⟨[], none, 0⟩]) hf hx (Sub.refl _)
    (fun w hT => by
      exact (rnew_con ).mono fun e w' ⟨r', h1, h2⟩ => ⟨(r'), _, h1, rfl, h2⟩) hd fun y v hv => by subst hv; exact hr y 
end
section
variable {ops : Array Oper} {Q : Exit → Act → World → Prop} {N : Nat} {U : Env} {w0 : World} {L0 L F : List Res} {ty : TypeId} {rest : List Oper} {pos : String} {after : Array Edge} {xs : List Operand} {tys : Array TypeId} {dT : Tmp}
theorem em_rnew_con (hf : ∀ args w, (callFunc 19 args).run Try.prog w = .ok (.enter 19 args) w) (hx : opvs U xs = some []) : K.D.EvM Try.prog U w0 L0 L [] (.call ⟨.value (.func 19), xs.toArray, tys⟩) ty (fun g => .pointer (some ⟨ (g 0).2, 0, none⟩)) (fun g => True) (fun g => RefI (g 0).2 ⟨[], none, 0⟩) :=
  K.D.em_call hf hx fun w hT => by
    have hT1 := hT; exact (rnew_con ).mono fun e w' ⟨r', h1, h2⟩ => ⟨fun i => (none, r'), h1, trivial, h2⟩
end
theorem fo68_0 : K.fieldOff Try.prog 68 0 = some (53, 0, 1) := by kernel_rfl
/- (*turntable/turntableref14.Index).Many -/
set_option maxHeartbeats 1000000 in
set_option maxRecDepth 100000 in
theorem rmany_con {rp : Nat} {gr : RI} {w : World} (hd : Disj [RefI rp gr]) (ho : ∀ r ∈ ([RefI rp gr] : List Res), r.ok w.heap) :
    Calls Try.prog 27 #[.pointer (some ⟨rp, 0, none⟩)] w fun e w' => e = .returned (.int .i64 gr.l.length) ∧ Tr w [RefI rp gr] w' [RefI rp gr] := by
  refine K.enter (args := [_]) Try.func27 rfl Try.ntmps27 rfl hd ho ?_
  refine K.GC.opened1 ?_
  refine K.GC.seq ?_
  refine K.GC.region ?_
  refine K.GL.det (K.e_assign rfl) rfl ?_
  refine K.GL.nil ?_
  refine K.GQ.go ?_
  refine K.GC.seq ?_
  refine K.GC.region ?_
  refine K.GL.det (K.e_move rfl) rfl ?_
  refine K.GL.det (K.e_nilCheck rfl) rfl ?_
  first | refine K.GL.det (K.e_fa fo68_0 rfl) rfl ?_ | refine K.GL.det (K.e_fieldAddr fo68_0 rfl) rfl ?_
  first | refine K.GL.det (K.e_ldE Try.isAgg53 rfl rfl (by assumption) rfl) rfl ?_ | refine K.GL.det (K.e_ldF Try.isAgg53 rfl rfl (by assumption) rfl) rfl ?_ | refine K.GL.det (K.e_load Try.isAgg53 rfl rfl) rfl ?_ | refine K.GL.det (K.e_load0 Try.isAgg53 rfl (by assumption)) rfl ?_
  refine K.GL.det (K.e_len Try.underlying53 rfl) rfl ?_
  refine K.GL.det (K.e_assign rfl) rfl ?_
  refine K.GL.nil ?_
  refine K.GQ.go ?_
  refine K.GC.ret ?_
  refine K.GQ.ret1 Try.results27 rfl (fun w hT => ?_)
  exact ⟨rfl, hT.one⟩
section
variable {ops : Array Oper} {Q : Exit → Act → World → Prop} {N : Nat} {U : Env} {w0 : World} {L0 L F : List Res} {ty : TypeId} {rest : List Oper} {pos : String} {after : Array Edge} {xs : List Operand} {tys : Array TypeId} {dT : Tmp}
theorem gl_rmany_con {rp : Nat} {gr : RI}  {F1 : List Res}(hf : ∀ args w, (callFunc 27 args).run Try.prog w = .ok (.enter 27 args) w) (hx : opvs U xs = some [.pointer (some ⟨rp, 0, none⟩)]) [p1 : PkI L rp gr F1] (hd : Nat.ble (dT + 1) N = true)
    (hr : GL Try.prog ops Q rest N ((dT, .int .i64 gr.l.length) :: U) w0 L0 (RefI rp gr :: F1)) : GL Try.prog ops Q (⟨some dT, .call ⟨.value (.func 27), xs.toArray, tys⟩, ty, pos, after, Option.none⟩ :: rest) N U w0 L0 L :=
  GL.callM (α := Unit) (l := [RefI rp gr]) (Pv := fun _y v => v = .int .i64 gr.l.length) (l' := fun _y => [RefI rp gr]) hf hx (p1.out)
    (fun w hT => by
      have hT1 : Tr w0 L0 w ([RefI rp gr] ++ F1) := hT.sub (p1.out); have hd0 := Disj.left hT1.disj; have ho0 := fun r hr => hT1.ok r (List.mem_append_left _ hr); exact (rmany_con  hd0 ho0).mono fun e w' ⟨h1, h2⟩ => ⟨(), _, h1, rfl, h2⟩) hd fun _y v hv => by subst hv; exact hr  
end
section
variable {ops : Array Oper} {Q : Exit → Act → World → Prop} {N : Nat} {U : Env} {w0 : World} {L0 L F : List Res} {ty : TypeId} {rest : List Oper} {pos : String} {after : Array Edge} {xs : List Operand} {tys : Array TypeId} {dT : Tmp}
theorem em_rmany_con {rp : Nat} {gr : RI}  {F1 : List Res}(hf : ∀ args w, (callFunc 27 args).run Try.prog w = .ok (.enter 27 args) w) (hx : opvs U xs = some [.pointer (some ⟨rp, 0, none⟩)]) [p1 : PkI L rp gr F1] : K.D.EvM Try.prog U w0 L0 L [RefI rp gr] (.call ⟨.value (.func 27), xs.toArray, tys⟩) ty (fun g => .int .i64 gr.l.length) (fun g => True) (fun g => RefI rp gr) :=
  K.D.em_call hf hx fun w hT => by
    have hT1 : Tr w0 L0 w ([RefI rp gr] ++ F1) := hT.sub (p1.out); have hd0 := Disj.left hT1.disj; have ho0 := fun r hr => hT1.ok r (List.mem_append_left _ hr); exact (rmany_con  hd0 ho0).mono fun e w' ⟨h1, h2⟩ => ⟨fun i => (none, 0), h1, trivial, h2⟩
end
/- (*turntable/turntableref14.Index).at -/
set_option maxHeartbeats 1000000 in
set_option maxRecDepth 100000 in
theorem rat_con {rp : Nat} {gr : RI} {k : Int} {w : World} (hz : gr.l.length ≤ 9000) (hd : Disj [RefI rp gr]) (ho : ∀ r ∈ ([RefI rp gr] : List Res), r.ok w.heap) :
    Calls Try.prog 40 #[.pointer (some ⟨rp, 0, none⟩), .int .i64 k] w fun e w' => e = .returned (.int .i64 (atI k gr.l)) ∧ Tr w [RefI rp gr] w' [RefI rp gr] := by
  refine K.enter (args := [_, _]) Try.func40 rfl Try.ntmps40 rfl hd ho ?_
  refine K.GC.opened1 ?_
  refine K.GC.seq ?_
  refine K.GC.region ?_
  refine K.GL.det (K.e_assign rfl) rfl ?_
  refine K.GL.nil ?_
  refine K.GQ.go ?_
  refine K.GC.seq ?_
  refine K.GC.seq ?_
  refine K.GC.region ?_
  refine K.GL.det (K.e_assign rfl) rfl ?_
  refine K.GL.nil ?_
  refine K.GQ.go ?_
  refine K.GC.block ?_
  refine K.GC.loopk (α := Nat) [0, 1] rfl (fun x => [(5, .int .i64 (x : Int))]) (fun x => (gr.L rp)) (fun x => x ≤ gr.l.length ∧ ∀ (j : Nat) o, j < x → gr.l[j]? = some o → o.x.id ≠ k) (fun x => (gr.l.length - x)) 0 ⟨Nat.zero_le _, fun j o h => absurd h (by omega)⟩ (by first | ((repeat refine ⟨rfl, ?_⟩); exact trivial) | (simp only [List.take_zero, List.map_nil, List.flatMap_nil, List.append_nil]; (repeat refine ⟨rfl, ?_⟩); exact trivial)) (by first | exact K.sb | (dsimp only; exact K.sb) | (simp only [List.take_zero, List.map_nil, List.flatMap_nil, List.append_nil]; exact K.sb) | exact K.Sub.refl _) (fun x hI => ?_)
  refine K.GC.seq ?_
  refine K.GC.seq ?_
  refine K.GC.region ?_
  refine K.GL.det (K.e_move rfl) rfl ?_
  refine K.GL.det (K.e_move rfl) rfl ?_
  refine K.GL.det (K.e_nilCheck rfl) rfl ?_
  first | refine K.GL.det (K.e_fa fo68_0 rfl) rfl ?_ | refine K.GL.det (K.e_fieldAddr fo68_0 rfl) rfl ?_
  first | refine K.GL.det (K.e_ldE Try.isAgg53 rfl rfl (by assumption) rfl) rfl ?_ | refine K.GL.det (K.e_ldF Try.isAgg53 rfl rfl (by assumption) rfl) rfl ?_ | refine K.GL.det (K.e_load Try.isAgg53 rfl rfl) rfl ?_ | refine K.GL.det (K.e_load0 Try.isAgg53 rfl (by assumption)) rfl ?_
  refine K.GL.det (K.e_len Try.underlying53 rfl) rfl ?_
  first | refine K.GL.det ((K.e_lt rfl rfl).yes (by first | omega | assumption | decide +kernel)) rfl ?_ | refine K.GL.det ((K.e_lt rfl rfl).no (by first | omega | assumption | decide +kernel)) rfl ?_ | refine K.GL.det (K.e_lt rfl rfl) rfl ?_
  refine K.GL.nil ?_
  refine K.GQ.go ?_
  refine K.GC.condB rfl (fun h1 => ?_) (fun h1 => ?_)
  · first
    | exact absurd h1 (by decide)
    | try replace h1 := of_decide_eq_true h1
      refine K.GC.skip ?_
      refine K.GQ.go ?_
      refine K.GC.seq ?_
      refine K.GC.block ?_
      refine K.GC.seq ?_
      obtain ⟨q, hq⟩ : ∃ q, gr.l[x]? = some q := get_ex (by omega)
      refine K.GC.region ?_
      refine K.GL.det (K.e_move rfl) rfl ?_
      refine K.GL.det (K.e_nilCheck rfl) rfl ?_
      first | refine K.GL.det (K.e_fa fo68_0 rfl) rfl ?_ | refine K.GL.det (K.e_fieldAddr fo68_0 rfl) rfl ?_
      first | refine K.GL.det (K.e_ldE Try.isAgg53 rfl rfl (by assumption) rfl) rfl ?_ | refine K.GL.det (K.e_ldF Try.isAgg53 rfl rfl (by assumption) rfl) rfl ?_ | refine K.GL.det (K.e_load Try.isAgg53 rfl rfl) rfl ?_ | refine K.GL.det (K.e_load0 Try.isAgg53 rfl (by assumption)) rfl ?_
      refine K.GL.det (K.e_move rfl) rfl ?_
      first | refine K.GL.ixK sl53 rfl rfl rfl rfl (by assumption) rfl ?_ | refine K.GL.ix sl53 rfl rfl rfl rfl (by omega) rfl (fun q20 hq20 => ?_) | refine K.GL.ixI sl53 rfl rfl rfl rfl (by omega) (by omega) rfl (fun q20 hq20 => ?_) | refine K.GL.det (K.e_indexAddrS sl53 rfl rfl (by assumption) (by omega) (by omega)) rfl ?_ | refine K.GL.det (K.e_indexAddr sl53 rfl rfl (by omega) (by omega)) rfl ?_
      first | refine K.GL.det (K.e_fa fo33_0 rfl) rfl ?_ | refine K.GL.det (K.e_fieldAddr fo33_0 rfl) rfl ?_
      first | refine K.GL.det (K.e_fa fo28_0 rfl) rfl ?_ | refine K.GL.det (K.e_fieldAddr fo28_0 rfl) rfl ?_
      refine K.GL.det (K.e_ldF (l := gr.l) (e := encOE) (o := 0) Try.isAgg2 rfl rfl hq rfl) rfl ?_
      refine K.GL.det (K.e_move rfl) rfl ?_
      first | refine K.GL.det ((K.e_eq rfl rfl).yes (by first | omega | assumption | decide +kernel)) rfl ?_ | refine K.GL.det ((K.e_eq rfl rfl).no (by first | omega | assumption | decide +kernel)) rfl ?_ | refine K.GL.det (K.e_eq rfl rfl) rfl ?_
      refine K.GL.nil ?_
      refine K.GQ.go ?_
      refine K.GC.condB rfl (fun h2 => ?_) (fun h2 => ?_)
      · first
        | exact absurd h2 (by decide)
        | try replace h2 := of_decide_eq_true h2
          refine K.GC.seq ?_
          refine K.GC.region ?_
          refine K.GL.det (K.e_move rfl) rfl ?_
          refine K.GL.det (K.e_assign rfl) rfl ?_
          refine K.GL.nil ?_
          refine K.GQ.go ?_
          refine K.GC.ret ?_
          refine K.GQ.block_ret ?_
          refine K.GQ.then_ret ?_
          refine K.GQ.then_ret ?_
          refine K.GQ.block_ret ?_
          refine K.GQ.then_ret ?_
          refine K.GQ.ret1 Try.results40 rfl (fun w hT => ?_)
          first
            | exact ⟨by rw [atI_yes hq (by assumption) hI.2], hT.one⟩
            | exact ⟨by rw [atI_no (fun j o ho2 => hI.2 j o (by have := (List.getElem?_eq_some_iff.1 ho2).1; omega) ho2)], hT.one⟩
      · first
        | exact absurd h2 (by decide)
        | try replace h2 := of_decide_eq_false h2
          refine K.GC.skip ?_
          refine K.GQ.block_normal ?_
          refine K.GQ.go ?_
          refine K.GC.region ?_
          refine K.GL.det (K.e_move rfl) rfl ?_
          first | refine K.GL.det (K.e_add rfl rfl ⟨by omega, by omega⟩) rfl ?_ | refine K.GL.det (K.e_addw rfl rfl) rfl ?_
          refine K.GL.det (K.e_assign rfl) rfl ?_
          refine K.GL.nil ?_
          exact K.GQ.round (x + 1) ⟨by omega, fun j o hj ho2 => by
              rcases Nat.lt_or_ge j x with h | h
              · exact hI.2 j o h ho2
              · obtain rfl : j = x := by omega
                rw [hq] at ho2
                obtain rfl := Option.some.inj ho2
                assumption⟩ (by omega) (by (repeat refine ⟨rfl, ?_⟩); exact trivial) (K.Sub.refl _)
  · first
    | exact absurd h1 (by decide)
    | try replace h1 := of_decide_eq_false h1
      refine K.GC.exit ?_
      refine K.GQ.then_exit ?_
      refine K.GQ.then_exit ?_
      refine K.GQ.block_hit ?_
      refine K.GQ.go ?_
      refine K.GC.seq ?_
      refine K.GC.region ?_
      refine K.GL.det (K.e_assign rfl) rfl ?_
      refine K.GL.nil ?_
      refine K.GQ.go ?_
      refine K.GC.ret ?_
      refine K.GQ.ret1 Try.results40 rfl (fun w hT => ?_)
      first
        | exact ⟨by rw [atI_yes hq (by assumption) hI.2], hT.one⟩
        | exact ⟨by rw [atI_no (fun j o ho2 => hI.2 j o (by have := (List.getElem?_eq_some_iff.1 ho2).1; omega) ho2)], hT.one⟩
section
variable {ops : Array Oper} {Q : Exit → Act → World → Prop} {N : Nat} {U : Env} {w0 : World} {L0 L F : List Res} {ty : TypeId} {rest : List Oper} {pos : String} {after : Array Edge} {xs : List Operand} {tys : Array TypeId} {dT : Tmp}
theorem gl_rat_con {rp : Nat} {gr : RI} {k : Int}  {F1 : List Res}(hf : ∀ args w, (callFunc 40 args).run Try.prog w = .ok (.enter 40 args) w) (hx : opvs U xs = some [.pointer (some ⟨rp, 0, none⟩), .int .i64 k]) [p1 : PkI L rp gr F1] (hz : gr.l.length ≤ 9000) (hd : Nat.ble (dT + 1) N = true)
    (hr : GL Try.prog ops Q rest N ((dT, .int .i64 (atI k gr.l)) :: U) w0 L0 (RefI rp gr :: F1)) : GL Try.prog ops Q (⟨some dT, .call ⟨.value (.func 40), xs.toArray, tys⟩, ty, pos, after, Option.none⟩ :: rest) N U w0 L0 L :=
  GL.callM (α := Unit) (l := [RefI rp gr]) (Pv := fun _y v => v = .int .i64 (atI k gr.l)) (l' := fun _y => [RefI rp gr]) hf hx (p1.out)
    (fun w hT => by
      have hT1 : Tr w0 L0 w ([RefI rp gr] ++ F1) := hT.sub (p1.out); have hd0 := Disj.left hT1.disj; have ho0 := fun r hr => hT1.ok r (List.mem_append_left _ hr); exact (rat_con hz hd0 ho0).mono fun e w' ⟨h1, h2⟩ => ⟨(), _, h1, rfl, h2⟩) hd fun _y v hv => by subst hv; exact hr  
end
section
variable {ops : Array Oper} {Q : Exit → Act → World → Prop} {N : Nat} {U : Env} {w0 : World} {L0 L F : List Res} {ty : TypeId} {rest : List Oper} {pos : String} {after : Array Edge} {xs : List Operand} {tys : Array TypeId} {dT : Tmp}
theorem em_rat_con {rp : Nat} {gr : RI} {k : Int}  {F1 : List Res}(hf : ∀ args w, (callFunc 40 args).run Try.prog w = .ok (.enter 40 args) w) (hx : opvs U xs = some [.pointer (some ⟨rp, 0, none⟩), .int .i64 k]) [p1 : PkI L rp gr F1] (hz : gr.l.length ≤ 9000) : K.D.EvM Try.prog U w0 L0 L [RefI rp gr] (.call ⟨.value (.func 40), xs.toArray, tys⟩) ty (fun g => .int .i64 (atI k gr.l)) (fun g => True) (fun g => RefI rp gr) :=
  K.D.em_call hf hx fun w hT => by
    have hT1 : Tr w0 L0 w ([RefI rp gr] ++ F1) := hT.sub (p1.out); have hd0 := Disj.left hT1.disj; have ho0 := fun r hr => hT1.ok r (List.mem_append_left _ hr); exact (rat_con hz hd0 ho0).mono fun e w' ⟨h1, h2⟩ => ⟨fun i => (none, 0), h1, trivial, h2⟩
end
/- turntable/turntableref14.own -/
set_option maxHeartbeats 1000000 in
set_option maxRecDepth 100000 in
theorem rown_con {q : OE} {w : World} (h9 : q.x.sv.length ≤ 9000) [Old w [] q.a (K.encS) (q.x.sv)] :
    Calls Try.prog 42 #[.agg (OE.enc q).toArray] w fun e w' => ∃ a' : Option Addr, ∃ c' : Nat, e = .returned (.agg (encE q.x a' c').toArray) ∧ Tr w [] w' [trow a' c' 9 K.encS q.x.sv] := by
  refine K.enter0 (args := [_]) Try.func42 rfl Try.ntmps42 rfl ?_
  refine K.GC.seq ?_
  refine K.GC.region ?_
  refine K.GL.box rfl rfl rfl (fun b1 => ?_)
  refine K.GL.alloc Try.zeroValue33 rfl rfl (fun b2 => ?_)
  refine K.GL.nil ?_
  refine K.GQ.go ?_
  refine K.GC.seq ?_
  refine K.GC.region ?_
  refine K.GL.buildT K.encS [] mk29 rfl rfl rfl rfl rfl (fun b3 => ?_)
  first | refine K.GL.det (K.e_fa fo33_1 rfl) rfl ?_ | refine K.GL.det (K.e_fieldAddr fo33_1 rfl) rfl ?_
  first | refine K.GL.det (K.e_fa fo31_4 rfl) rfl ?_ | refine K.GL.det (K.e_fieldAddr fo31_4 rfl) rfl ?_
  refine K.GL.det (K.e_load Try.isAgg29 rfl rfl) rfl ?_
  first | refine K.GL.appendT mk29 rfl rfl rfl rfl rfl (by first | omega | (simp only [List.length_cons, List.length_nil, List.length_append]; omega)) (by first | omega | (simp only [List.length_cons, List.length_nil, List.length_append]; omega)) rfl (fun a7 c7 => ?_) | (refine K.GL.trow0 9 K.encS ?_; refine K.GL.appendT mk29 rfl rfl rfl rfl rfl (by first | omega | (simp only [List.length_cons, List.length_nil, List.length_append]; omega)) (by first | omega | (simp only [List.length_cons, List.length_nil, List.length_append]; omega)) rfl (fun a7 c7 => ?_))
  first | refine K.GL.det (K.e_fa fo33_1 rfl) rfl ?_ | refine K.GL.det (K.e_fieldAddr fo33_1 rfl) rfl ?_
  first | refine K.GL.det (K.e_fa fo31_4 rfl) rfl ?_ | refine K.GL.det (K.e_fieldAddr fo31_4 rfl) rfl ?_
  refine K.GL.store rfl rfl rfl Try.sizeOf29 rfl rfl ?_
  refine K.GL.nil ?_
  refine K.GQ.go ?_
  refine K.GC.seq ?_
  refine K.GC.region ?_
  first | refine K.GL.det (K.e_ldA Try.isAgg33 Try.sizeOf33 rfl rfl (by assumption)) rfl ?_ | refine K.GL.det (K.e_ldAF Try.isAgg33 Try.sizeOf33 rfl rfl (by assumption) rfl) rfl ?_ | refine K.GL.det (K.e_loads Try.isAgg33 Try.sizeOf33 rfl rfl) rfl ?_
  refine K.GL.store rfl rfl rfl Try.sizeOf33 rfl rfl ?_
  refine K.GL.nil ?_
  refine K.GQ.go ?_
  refine K.GC.ret ?_
  refine K.GQ.retc Try.results42 Try.isAgg33 Try.sizeOf33 rfl rfl (fun w hT => ?_)
  rw [List.nil_append] at hT
  exact ⟨a7, c7, rfl, hT.sub K.sb⟩
section
variable {ops : Array Oper} {Q : Exit → Act → World → Prop} {N : Nat} {U : Env} {w0 : World} {L0 L F : List Res} {ty : TypeId} {rest : List Oper} {pos : String} {after : Array Edge} {xs : List Operand} {tys : Array TypeId} {dT : Tmp}
theorem gl_rown_con {q : OE} (hf : ∀ args w, (callFunc 42 args).run Try.prog w = .ok (.enter 42 args) w) (hx : opvs U xs = some [.agg (OE.enc q).toArray]) (h9 : q.x.sv.length ≤ 9000) [o0 : RdC w0 L0 [] L q.a (K.encS) (q.x.sv)] (hd : Nat.ble (dT + 1) N = true)
    (hr : ∀ (a' : Option Addr) (c' : Nat), GL Try.prog ops Q rest N ((dT, .agg (encE q.x a' c').toArray) :: U) w0 L0 (trow a' c' 9 K.encS q.x.sv :: L)) : GL Try.prog ops Q (⟨some dT, .call ⟨.value (.func 42), xs.toArray, tys⟩, ty, pos, after, Option.none⟩ :: rest) N U w0 L0 L :=
  GL.callM (α := (Option Addr) × (Nat)) (l := []) (Pv := fun y v => v = .agg (encE q.x y.1 y.2).toArray) (l' := fun y => [trow y.1 y.2 9 K.encS q.x.sv]) hf hx (Sub.refl _)
    (fun w hT => by
      have _o0 := o0.out w hT; exact (rown_con h9).mono fun e w' ⟨a', c', h1, h2⟩ => ⟨(a', c'), _, h1, rfl, h2⟩) hd fun y v hv => by subst hv; exact hr y.1 y.2 
end
section
variable {ops : Array Oper} {Q : Exit → Act → World → Prop} {N : Nat} {U : Env} {w0 : World} {L0 L F : List Res} {ty : TypeId} {rest : List Oper} {pos : String} {after : Array Edge} {xs : List Operand} {tys : Array TypeId} {dT : Tmp}
theorem em_rown_con {q : OE} (hf : ∀ args w, (callFunc 42 args).run Try.prog w = .ok (.enter 42 args) w) (hx : opvs U xs = some [.agg (OE.enc q).toArray]) (h9 : q.x.sv.length ≤ 9000) [o0 : RdC w0 L0 [] L q.a (K.encS) (q.x.sv)] : K.D.EvM Try.prog U w0 L0 L [] (.call ⟨.value (.func 42), xs.toArray, tys⟩) ty (fun g => .agg (encE q.x (g 0).1 (g 0).2).toArray) (fun g => True) (fun g => trow (g 0).1 (g 0).2 9 K.encS q.x.sv) :=
  K.D.em_call hf hx fun w hT => by
    have hT1 := hT; have _o0 := o0.out w hT1; exact (rown_con h9).mono fun e w' ⟨a', c', h1, h2⟩ => ⟨fun i => (a', c'), h1, trivial, h2⟩
end
/- (*turntable/turntableref14.Index).Del -/
set_option maxHeartbeats 2000000 in
set_option maxRecDepth 100000 in
theorem rdel_con {rp : Nat} {gr : RI} {k : Int} {w : World} (h9 : SvOk gr.l) (hz : gr.l.length ≤ 9000) (hd : Disj [RefI rp gr]) (ho : ∀ r ∈ ([RefI rp gr] : List Res), r.ok w.heap) :
    Calls Try.prog 20 #[.pointer (some ⟨rp, 0, none⟩), .int .i64 k] w fun e w' => ∃ g' : RI, e = .returned (.bool (xget k gr.xs).isSome) ∧ SvOk g'.l ∧ g'.xs = xdel k gr.xs ∧ Tr w [RefI rp gr] w' [RefI rp g'] := by
  refine K.enter (args := [_, _]) Try.func20 rfl Try.ntmps20 rfl hd ho ?_
  refine K.GC.seq ?_
  refine K.GC.region ?_
  refine K.GL.det (K.e_assign rfl) rfl ?_
  refine K.GL.nil ?_
  refine K.GQ.go ?_
  refine K.GC.seq ?_
  refine K.GC.region ?_
  refine K.GL.det (K.e_move rfl) rfl ?_
  refine K.GL.det (K.e_move rfl) rfl ?_
  refine gl_rat_con Try.call40 rfl (by first | assumption | omega | rfl | decide) rfl (?_)
  refine K.GL.det (K.e_assign rfl) rfl ?_
  refine K.GL.nil ?_
  refine K.GQ.go ?_
  refine K.GC.seq ?_
  refine K.GC.seq ?_
  rcases atI_cases k gr.l with ⟨hat, hno⟩ | ⟨i, o, hat, ho2, hoi, hob⟩
  all_goals rw [hat]
  all_goals
    refine K.GC.region ?_
    refine K.GL.det (K.e_move rfl) rfl ?_
    first | refine K.GL.det ((K.e_lt rfl rfl).yes (by first | omega | assumption | decide +kernel)) rfl ?_ | refine K.GL.det ((K.e_lt rfl rfl).no (by first | omega | assumption | decide +kernel)) rfl ?_ | refine K.GL.det (K.e_lt rfl rfl) rfl ?_
    refine K.GL.nil ?_
    refine K.GQ.go ?_
    refine K.GC.condB rfl (fun h1 => ?_) (fun h1 => ?_)
    · first
      | exact absurd h1 (by decide)
      | try replace h1 := of_decide_eq_true h1
        refine K.GC.seq ?_
        refine K.GC.region ?_
        refine K.GL.det (K.e_assign rfl) rfl ?_
        refine K.GL.nil ?_
        refine K.GQ.go ?_
        refine K.GC.ret ?_
        refine K.GQ.then_ret ?_
        refine K.GQ.ret1 Try.results20 rfl (fun w hT => ?_)
        first
          | (obtain ⟨x1, x2, _⟩ := x_not hno
             rw [x1]
             exact ⟨gr, rfl, h9, x2.symm, hT⟩)
          | (obtain ⟨x1, x2, _⟩ := x_at ho2 hoi hob
             rw [x1]
             simp only [List.nil_append] at hT
             exact ⟨⟨(gr.l.take i ++ gr.l.drop (i + 1)), a27, c27⟩, rfl, sub_ok h9 (i := i), x2.symm, rdel_end ho2 (hT.sub K.sb)⟩)
          | (exfalso; omega)
    · first
      | exact absurd h1 (by decide)
      | try replace h1 := of_decide_eq_false h1
        refine K.GC.skip ?_
        refine K.GQ.go ?_
        refine K.GC.seq ?_
        refine K.GC.opened1 ?_
        have hil := (List.getElem?_eq_some_iff.1 ho2).1
        refine K.GC.capT gr.a (fun hcap => ?_)
        have htl : (gr.l.take i).length = i := by rw [List.length_take]; omega
        have hdl : (gr.l.drop (i + 1)).length = gr.l.length - (i + 1) := List.length_drop
        refine K.D.GC.drawn0 17 [[], [], [], [2], [2, 3], [2, 3, 4], [], [2, 3, 4, 5, 6], [1, 2, 3, 4, 5, 6, 7], [], [9], [9, 10], [9, 10, 11], [], [13], [9, 10, 11, 12, 13, 14], [1, 2, 3, 4, 5, 6, 7, 8, 9, 10, 11, 12, 13, 14, 15], [0, 1, 2, 3, 4, 5, 6, 7, 8, 9, 10, 11, 12, 13, 14, 15, 16], [0, 1, 2, 3, 4, 5, 6, 7, 8, 9, 10, 11, 12, 13, 14, 15, 16, 17], [0, 1, 2, 3, 4, 5, 6, 7, 8, 9, 10, 11, 12, 13, 14, 15, 16, 17, 18]] [[], [], [], [2], [3], [4], [], [5, 6], [1, 7], [], [9], [10], [11], [], [13], [12, 14], [8, 15]] [[], [], [], [], [], [], [], [], [1], [], [], [], [], [], [], [], [8]] [[], [], [], [], [], [], [], [], [1], [], [], [], [], [], [], [], [8]] [16] [0, 4, 5, 28, 29] (by kernel_rfl) (by kernel_rfl) (by kernel_rfl) rfl ?_
        refine K.D.DW.det (b := []) (u := []) rfl rfl rfl (fun vs hf => K.e_move rfl) ?_
        refine K.D.DW.ev0 (b := []) (u := []) (a := []) rfl rfl rfl (fun vs hf => show K.D.EvM _ _ _ _ (_) [] _ _ _ _ _ from K.D.em_build encOE [] mk53 rfl rfl rfl rfl) ?_
        refine K.D.DW.det (b := []) (u := []) rfl rfl rfl (fun vs hf => K.e_move rfl) ?_
        refine K.D.DW.det (b := [2]) (u := []) rfl rfl rfl (fun vs hf => K.e_nilCheck rfl) ?_
        first | refine K.D.DW.det (b := [3]) (u := []) rfl rfl rfl (fun vs hf => K.e_fa fo68_0 rfl) ?_ | refine K.D.DW.det (b := [3]) (u := []) rfl rfl rfl (fun vs hf => K.e_fieldAddr fo68_0 rfl) ?_
        refine K.D.DW.det (b := [4]) (u := []) rfl rfl rfl (fun vs hf => K.e_load Try.isAgg53 rfl rfl) ?_
        refine K.D.DW.det (b := []) (u := []) rfl rfl rfl (fun vs hf => K.e_move rfl) ?_
        refine K.D.DW.ev0 (b := [5, 6]) (u := []) (a := []) rfl rfl rfl (fun vs hf => show K.D.EvM _ _ _ _ (_) [] _ _ _ _ _ from K.D.em_partH (j := i) sl53 rfl rfl rfl rfl (by omega) (by omega)) ?_
        refine K.D.DW.ev0 (b := [1, 7]) (u := [1]) (a := [1]) rfl rfl rfl (fun vs ⟨hf12, ⟨hf18, hg18⟩, _⟩ => show K.D.EvM _ _ _ _ (_ :: _) [_] _ _ _ _ _ from K.D.em_append mk53 rfl rfl rfl rfl rfl (by first | omega | (simp only [List.length_cons, List.length_nil, List.length_append]; omega)) (by first | omega | (simp only [List.length_cons, List.length_nil, List.length_append]; omega))) ?_
        refine K.D.DW.det (b := []) (u := []) rfl rfl rfl (fun vs hf => K.e_move rfl) ?_
        refine K.D.DW.det (b := [9]) (u := []) rfl rfl rfl (fun vs hf => K.e_nilCheck rfl) ?_
        first | refine K.D.DW.det (b := [10]) (u := []) rfl rfl rfl (fun vs hf => K.e_fa fo68_0 rfl) ?_ | refine K.D.DW.det (b := [10]) (u := []) rfl rfl rfl (fun vs hf => K.e_fieldAddr fo68_0 rfl) ?_
        refine K.D.DW.det (b := [11]) (u := []) rfl rfl rfl (fun vs hf => K.e_load Try.isAgg53 rfl rfl) ?_
        refine K.D.DW.det (b := []) (u := []) rfl rfl rfl (fun vs hf => K.e_move rfl) ?_
        refine K.D.DW.det (b := [13]) (u := []) rfl rfl rfl (fun vs hf => (K.e_add rfl rfl ⟨by omega, by omega⟩).cast_int (b := ((i + 1 : Nat) : Int)) (by omega)) ?_
        refine K.D.DW.ev0 (b := [12, 14]) (u := []) (a := []) rfl rfl rfl (fun vs hf => show K.D.EvM _ _ _ _ (_) [] _ _ _ _ _ from K.D.em_partL (j := i + 1) sl53 rfl rfl rfl rfl (by omega) (by omega)) ?_
        refine K.D.DW.ev0 (b := [8, 15]) (u := [8]) (a := [8]) rfl rfl rfl (fun vs ⟨hf19, ⟨hf26, hg26⟩, _⟩ => show K.D.EvM _ _ _ _ (_ :: _) [_] _ _ _ _ _ from K.D.em_append mk53 rfl rfl rfl rfl rfl (by first | omega | (simp only [List.length_cons, List.length_nil, List.length_append]; omega)) (by first | omega | (simp only [List.length_cons, List.length_nil, List.length_append]; omega))) ?_
        refine K.D.DW.fin (fun vs hf => ?_)
        refine K.GL.keep [4, 11, 27, 28, 29] rfl ?_
        refine K.D.GL.res1 rfl ?_
        try dsimp only
        clear hf
        generalize (vs 16 0).1 = a27, (vs 16 0).2 = c27
        try clear vs
        refine K.GL.det (K.e_nilCheck rfl) rfl ?_
        first | refine K.GL.det (K.e_fa fo68_0 rfl) rfl ?_ | refine K.GL.det (K.e_fieldAddr fo68_0 rfl) rfl ?_
        refine K.GL.store rfl rfl rfl Try.sizeOf53 rfl rfl ?_
        refine K.GL.nil ?_
        refine K.GQ.go ?_
        refine K.GC.seq ?_
        refine K.GC.region ?_
        refine K.GL.det (K.e_assign rfl) rfl ?_
        refine K.GL.nil ?_
        refine K.GQ.go ?_
        refine K.GC.ret ?_
        refine K.GQ.ret1 Try.results20 rfl (fun w hT => ?_)
        first
          | (obtain ⟨x1, x2, _⟩ := x_not hno
             rw [x1]
             exact ⟨gr, rfl, h9, x2.symm, hT⟩)
          | (obtain ⟨x1, x2, _⟩ := x_at ho2 hoi hob
             rw [x1]
             simp only [List.nil_append] at hT
             exact ⟨⟨(gr.l.take i ++ gr.l.drop (i + 1)), a27, c27⟩, rfl, sub_ok h9 (i := i), x2.symm, rdel_end ho2 (hT.sub K.sb)⟩)
          | (exfalso; omega)
section
variable {ops : Array Oper} {Q : Exit → Act → World → Prop} {N : Nat} {U : Env} {w0 : World} {L0 L F : List Res} {ty : TypeId} {rest : List Oper} {pos : String} {after : Array Edge} {xs : List Operand} {tys : Array TypeId} {dT : Tmp}
theorem gl_rdel_con {rp : Nat} {gr : RI} {k : Int}  {F1 : List Res}(hf : ∀ args w, (callFunc 20 args).run Try.prog w = .ok (.enter 20 args) w) (hx : opvs U xs = some [.pointer (some ⟨rp, 0, none⟩), .int .i64 k]) [p1 : PkI L rp gr F1] (h9 : SvOk gr.l) (hz : gr.l.length ≤ 9000) (hd : Nat.ble (dT + 1) N = true)
    (hr : ∀ (g' : RI), SvOk g'.l → g'.xs = xdel k gr.xs → GL Try.prog ops Q rest N ((dT, .bool (xget k gr.xs).isSome) :: U) w0 L0 (RefI rp g' :: F1)) : GL Try.prog ops Q (⟨some dT, .call ⟨.value (.func 20), xs.toArray, tys⟩, ty, pos, after, Option.none⟩ :: rest) N U w0 L0 L :=
  GL.callM (α := (RI)) (l := [RefI rp gr]) (Pv := fun y v => v = .bool (xget k gr.xs).isSome ∧ SvOk y.l ∧ y.xs = xdel k gr.xs) (l' := fun y => [RefI rp y]) hf hx (p1.out)
    (fun w hT => by
      have hT1 : Tr w0 L0 w ([RefI rp gr] ++ F1) := hT.sub (p1.out); have hd0 := Disj.left hT1.disj; have ho0 := fun r hr => hT1.ok r (List.mem_append_left _ hr); exact (rdel_con h9 hz hd0 ho0).mono fun e w' ⟨g', h1, g0, g1, h2⟩ => ⟨(g'), _, h1, ⟨rfl, g0, g1⟩, h2⟩) hd fun y v hv => by obtain ⟨rfl, g0, g1⟩ := hv; exact hr y g0 g1
end
/- (*turntable/turntableref14.Index).set -/
set_option maxHeartbeats 1000000 in
set_option maxRecDepth 100000 in
theorem rset_con {rp : Nat} {gr : RI} {i : Nat} {o : OE} {x : EX} {w : World} (ho2 : gr.l[i]? = some o) (hsv : x.sv = o.x.sv) (hz : gr.l.length ≤ 9000) (hd : Disj [RefI rp gr]) (ho : ∀ r ∈ ([RefI rp gr] : List Res), r.ok w.heap) :
    Calls Try.prog 41 #[.pointer (some ⟨rp, 0, none⟩), .int .i64 (i : Int), .agg (encE x o.a o.c).toArray] w fun e w' => ∃ a' : Option Addr, ∃ c' : Nat, e = .returned (.bool true) ∧ Tr w [RefI rp gr] w' [RefI rp ⟨gr.l.set i ⟨x, o.a, o.c⟩, a', c'⟩] := by
  refine K.enter (args := [_, _, _]) Try.func41 rfl Try.ntmps41 rfl hd ho ?_
  refine K.GC.opened1 ?_
  refine K.GC.seq ?_
  refine K.GC.region ?_
  refine K.GL.box rfl rfl rfl (fun b5 => ?_)
  refine K.GL.det (K.e_assign rfl) rfl ?_
  refine K.GL.nil ?_
  refine K.GQ.go ?_
  refine K.GC.seq ?_
  refine K.GC.region ?_
  refine K.GL.buildT encOE [] mk53 rfl rfl rfl rfl rfl (fun b8 => ?_)
  refine K.GL.det (K.e_move rfl) rfl ?_
  refine K.GL.det (K.e_nilCheck rfl) rfl ?_
  first | refine K.GL.det (K.e_fa fo68_0 rfl) rfl ?_ | refine K.GL.det (K.e_fieldAddr fo68_0 rfl) rfl ?_
  refine K.GL.det (K.e_load Try.isAgg53 rfl rfl) rfl ?_
  first | refine K.GL.appendT mk53 rfl rfl rfl rfl rfl (by first | omega | (simp only [List.length_cons, List.length_nil, List.length_append]; omega)) (by first | omega | (simp only [List.length_cons, List.length_nil, List.length_append]; omega)) rfl (fun a13 c13 => ?_) | (refine K.GL.trow0 33 encOE ?_; refine K.GL.appendT mk53 rfl rfl rfl rfl rfl (by first | omega | (simp only [List.length_cons, List.length_nil, List.length_append]; omega)) (by first | omega | (simp only [List.length_cons, List.length_nil, List.length_append]; omega)) rfl (fun a13 c13 => ?_))
  simp only [List.nil_append]
  refine K.GL.det (K.e_assign rfl) rfl ?_
  refine K.GL.nil ?_
  refine K.GQ.go ?_
  refine K.GC.seq ?_
  refine K.GC.region ?_
  refine K.GL.det (K.e_move rfl) rfl ?_
  refine K.GL.det (K.e_move rfl) rfl ?_
  first | refine K.GL.det (K.e_ldA Try.isAgg33 Try.sizeOf33 rfl rfl (by assumption)) rfl ?_ | refine K.GL.det (K.e_ldAF Try.isAgg33 Try.sizeOf33 rfl rfl (by assumption) rfl) rfl ?_ | refine K.GL.det (K.e_loads Try.isAgg33 Try.sizeOf33 rfl rfl) rfl ?_
  first | refine K.GL.ixK sl53 rfl rfl rfl rfl (by assumption) rfl ?_ | refine K.GL.ix sl53 rfl rfl rfl rfl (by omega) rfl (fun q17 hq17 => ?_) | refine K.GL.ixI sl53 rfl rfl rfl rfl (by omega) (by omega) rfl (fun q17 hq17 => ?_) | refine K.GL.det (K.e_indexAddrS sl53 rfl rfl (by assumption) (by omega) (by omega)) rfl ?_ | refine K.GL.det (K.e_indexAddr sl53 rfl rfl (by omega) (by omega)) rfl ?_
  refine K.GL.storeT (⟨x, o.a, o.c⟩ : OE) rfl rfl rfl Try.sizeOf33 rfl (List.getElem?_eq_some_iff.1 ho2).1 ?_
  refine K.GL.nil ?_
  refine K.GQ.go ?_
  refine K.GC.seq ?_
  refine K.GC.region ?_
  refine K.GL.det (K.e_move rfl) rfl ?_
  refine K.GL.det (K.e_move rfl) rfl ?_
  refine K.GL.det (K.e_nilCheck rfl) rfl ?_
  first | refine K.GL.det (K.e_fa fo68_0 rfl) rfl ?_ | refine K.GL.det (K.e_fieldAddr fo68_0 rfl) rfl ?_
  refine K.GL.store rfl rfl rfl Try.sizeOf53 rfl rfl ?_
  refine K.GL.nil ?_
  refine K.GQ.go ?_
  refine K.GC.seq ?_
  refine K.GC.region ?_
  refine K.GL.det (K.e_assign rfl) rfl ?_
  refine K.GL.nil ?_
  refine K.GQ.go ?_
  refine K.GC.ret ?_
  refine K.GQ.ret1 Try.results41 rfl (fun w hT => ?_)
  have e : gr.l.length = (gr.l.set i (⟨x, o.a, o.c⟩ : OE)).length := List.length_set.symm
  rw [e] at hT
  exact ⟨a13, c13, rfl, rset_end ho2 hsv (hT.sub K.sb)⟩
section
variable {ops : Array Oper} {Q : Exit → Act → World → Prop} {N : Nat} {U : Env} {w0 : World} {L0 L F : List Res} {ty : TypeId} {rest : List Oper} {pos : String} {after : Array Edge} {xs : List Operand} {tys : Array TypeId} {dT : Tmp}
theorem gl_rset_con {rp : Nat} {gr : RI} {i : Nat} {o : OE} {x : EX}  {F1 : List Res}(hf : ∀ args w, (callFunc 41 args).run Try.prog w = .ok (.enter 41 args) w) (hx : opvs U xs = some [.pointer (some ⟨rp, 0, none⟩), .int .i64 (i : Int), .agg (encE x o.a o.c).toArray]) [p1 : PkI L rp gr F1] (ho2 : gr.l[i]? = some o) (hsv : x.sv = o.x.sv) (hz : gr.l.length ≤ 9000) (hd : Nat.ble (dT + 1) N = true)
    (hr : ∀ (a' : Option Addr) (c' : Nat), GL Try.prog ops Q rest N ((dT, .bool true) :: U) w0 L0 (RefI rp ⟨gr.l.set i ⟨x, o.a, o.c⟩, a', c'⟩ :: F1)) : GL Try.prog ops Q (⟨some dT, .call ⟨.value (.func 41), xs.toArray, tys⟩, ty, pos, after, Option.none⟩ :: rest) N U w0 L0 L :=
  GL.callM (α := (Option Addr) × (Nat)) (l := [RefI rp gr]) (Pv := fun y v => v = .bool true) (l' := fun y => [RefI rp ⟨gr.l.set i ⟨x, o.a, o.c⟩, y.1, y.2⟩]) hf hx (p1.out)
    (fun w hT => by
      have hT1 : Tr w0 L0 w ([RefI rp gr] ++ F1) := hT.sub (p1.out); have hd0 := Disj.left hT1.disj; have ho0 := fun r hr => hT1.ok r (List.mem_append_left _ hr); exact (rset_con ho2 hsv hz hd0 ho0).mono fun e w' ⟨a', c', h1, h2⟩ => ⟨(a', c'), _, h1, rfl, h2⟩) hd fun y v hv => by subst hv; exact hr y.1 y.2 
end
section
variable {ops : Array Oper} {Q : Exit → Act → World → Prop} {N : Nat} {U : Env} {w0 : World} {L0 L F : List Res} {ty : TypeId} {rest : List Oper} {pos : String} {after : Array Edge} {xs : List Operand} {tys : Array TypeId} {dT : Tmp}
theorem em_rset_con {rp : Nat} {gr : RI} {i : Nat} {o : OE} {x : EX}  {F1 : List Res}(hf : ∀ args w, (callFunc 41 args).run Try.prog w = .ok (.enter 41 args) w) (hx : opvs U xs = some [.pointer (some ⟨rp, 0, none⟩), .int .i64 (i : Int), .agg (encE x o.a o.c).toArray]) [p1 : PkI L rp gr F1] (ho2 : gr.l[i]? = some o) (hsv : x.sv = o.x.sv) (hz : gr.l.length ≤ 9000) : K.D.EvM Try.prog U w0 L0 L [RefI rp gr] (.call ⟨.value (.func 41), xs.toArray, tys⟩) ty (fun g => .bool true) (fun g => True) (fun g => RefI rp ⟨gr.l.set i ⟨x, o.a, o.c⟩, (g 0).1, (g 0).2⟩) :=
  K.D.em_call hf hx fun w hT => by
    have hT1 : Tr w0 L0 w ([RefI rp gr] ++ F1) := hT.sub (p1.out); have hd0 := Disj.left hT1.disj; have ho0 := fun r hr => hT1.ok r (List.mem_append_left _ hr); exact (rset_con ho2 hsv hz hd0 ho0).mono fun e w' ⟨a', c', h1, h2⟩ => ⟨fun i => (a', c'), h1, trivial, h2⟩
end
/- (*turntable/turntableref14.Index).Pin -/
set_option maxHeartbeats 2000000 in
set_option maxRecDepth 100000 in
theorem rpin_con {rp : Nat} {gr : RI} {k : Int} {is : Bool} {w : World} (h9 : SvOk gr.l) (hz : gr.l.length ≤ 9000) (hd : Disj [RefI rp gr]) (ho : ∀ r ∈ ([RefI rp gr] : List Res), r.ok w.heap) :
    Calls Try.prog 21 #[.pointer (some ⟨rp, 0, none⟩), .int .i64 k, .bool is] w fun e w' => ∃ g' : RI, e = .returned (.bool (xget k gr.xs).isSome) ∧ SvOk g'.l ∧ g'.xs = xmod k (pinF is) gr.xs ∧ Tr w [RefI rp gr] w' [RefI rp g'] := by
  refine K.enter (args := [_, _, _]) Try.func21 rfl Try.ntmps21 rfl hd ho ?_
  refine K.GC.seq ?_
  refine K.GC.region ?_
  refine K.GL.det (K.e_assign rfl) rfl ?_
  refine K.GL.nil ?_
  refine K.GQ.go ?_
  refine K.GC.seq ?_
  refine K.GC.region ?_
  refine K.GL.det (K.e_move rfl) rfl ?_
  refine K.GL.det (K.e_move rfl) rfl ?_
  refine gl_rat_con Try.call40 rfl (by first | assumption | omega | rfl | decide) rfl (?_)
  refine K.GL.det (K.e_assign rfl) rfl ?_
  refine K.GL.nil ?_
  refine K.GQ.go ?_
  refine K.GC.seq ?_
  refine K.GC.seq ?_
  rcases atI_cases k gr.l with ⟨hat, hno⟩ | ⟨i, o, hat, ho2, hoi, hob⟩
  all_goals rw [hat]
  all_goals
    refine K.GC.region ?_
    refine K.GL.det (K.e_move rfl) rfl ?_
    first | refine K.GL.det ((K.e_lt rfl rfl).yes (by first | omega | assumption | decide +kernel)) rfl ?_ | refine K.GL.det ((K.e_lt rfl rfl).no (by first | omega | assumption | decide +kernel)) rfl ?_ | refine K.GL.det (K.e_lt rfl rfl) rfl ?_
    refine K.GL.nil ?_
    refine K.GQ.go ?_
    refine K.GC.condB rfl (fun h1 => ?_) (fun h1 => ?_)
    · first
      | exact absurd h1 (by decide)
      | try replace h1 := of_decide_eq_true h1
        refine K.GC.seq ?_
        refine K.GC.region ?_
        refine K.GL.det (K.e_assign rfl) rfl ?_
        refine K.GL.nil ?_
        refine K.GQ.go ?_
        refine K.GC.ret ?_
        refine K.GQ.then_ret ?_
        refine K.GQ.ret1 Try.results21 rfl (fun w hT => ?_)
        first
          | (obtain ⟨x1, _, x3⟩ := x_not hno
             rw [x1]
             exact ⟨gr, rfl, h9, (x3 _).symm, hT⟩)
          | (obtain ⟨x1, _, x3⟩ := x_at ho2 hoi hob
             rw [x1]
             refine ⟨⟨gr.l.set i ⟨pinF is o.x, o.a, o.c⟩, a1, c1⟩, rfl, ?_, ?_, hT.sub K.sb⟩
             · show SvOk (gr.l.set i _)
               rw [set_mid ho2]
               exact set_ok h9 (h9 o (List.mem_of_getElem? ho2))
             · show (gr.l.set i _).map OE.x = _
               rw [set_mid ho2, x3])
          | (exfalso; omega)
    · first
      | exact absurd h1 (by decide)
      | try replace h1 := of_decide_eq_false h1
        refine K.GC.skip ?_
        refine K.GQ.go ?_
        refine K.GC.seq ?_
        refine K.GC.opened1 ?_
        have hil := (List.getElem?_eq_some_iff.1 ho2).1
        refine K.GC.region ?_
        refine K.GL.det (K.e_move rfl) rfl ?_
        refine K.GL.det (K.e_nilCheck rfl) rfl ?_
        first | refine K.GL.det (K.e_fa fo68_0 rfl) rfl ?_ | refine K.GL.det (K.e_fieldAddr fo68_0 rfl) rfl ?_
        refine K.GL.det (K.e_load Try.isAgg53 rfl rfl) rfl ?_
        refine K.GL.det (K.e_move rfl) rfl ?_
        first | refine K.GL.ixK sl53 rfl rfl rfl rfl (by assumption) rfl ?_ | refine K.GL.ix sl53 rfl rfl rfl rfl (by omega) rfl (fun q19 hq19 => ?_) | refine K.GL.ixI sl53 rfl rfl rfl rfl (by omega) (by omega) rfl (fun q19 hq19 => ?_) | refine K.GL.det (K.e_indexAddrS sl53 rfl rfl (by assumption) (by omega) (by omega)) rfl ?_ | refine K.GL.det (K.e_indexAddr sl53 rfl rfl (by omega) (by omega)) rfl ?_
        refine K.GL.det (K.e_ldA (l := gr.l) (e := encOE) Try.isAgg33 Try.sizeOf33 rfl rfl ho2) rfl ?_
        refine K.GL.alloc Try.zeroValue33 rfl rfl (fun b8 => ?_)
        refine K.GL.storeP (vs := encE o.x o.a o.c) (cs' := encE o.x o.a o.c) rfl rfl rfl Try.sizeOf33 rfl rfl (by exact spliceO_all rfl) ?_
        refine K.GL.nil ?_
        refine K.GQ.go ?_
        refine K.GC.seq ?_
        refine K.GC.region ?_
        refine K.GL.det (K.e_move rfl) rfl ?_
        first | refine K.GL.det (K.e_fa fo33_0 rfl) rfl ?_ | refine K.GL.det (K.e_fieldAddr fo33_0 rfl) rfl ?_
        first | refine K.GL.det (K.e_fa fo28_4 rfl) rfl ?_ | refine K.GL.det (K.e_fieldAddr fo28_4 rfl) rfl ?_
        refine K.GL.store rfl rfl rfl Try.sizeOf4 rfl rfl ?_
        refine K.GL.nil ?_
        refine K.GQ.go ?_
        refine K.GC.seq ?_
        refine K.GC.res (L' := [cl b8 33 (encE (pinF is o.x) o.a o.c), cl rp 68 [.slice gr.a gr.l.length gr.c], trow gr.a gr.c 33 encOE gr.l, all (gr.l.map svR)]) ?_ (K.Sub.refl _)
        refine K.GC.tr (L' := [RefI rp gr, cl b8 33 (encE (pinF is o.x) o.a o.c)]) (fun w hT => RefI.of (hT.sub K.sb)) ?_
        refine K.GC.region ?_
        refine K.GL.det (K.e_move rfl) rfl ?_
        refine K.GL.det (K.e_move rfl) rfl ?_
        first | refine K.GL.det (K.e_ldA Try.isAgg33 Try.sizeOf33 rfl rfl (by assumption)) rfl ?_ | refine K.GL.det (K.e_ldAF Try.isAgg33 Try.sizeOf33 rfl rfl (by assumption) rfl) rfl ?_ | refine K.GL.det (K.e_loads Try.isAgg33 Try.sizeOf33 rfl rfl) rfl ?_
        refine gl_rset_con (i := i) (o := o) (x := pinF is o.x) Try.call41 rfl ho2 rfl hz rfl (fun a1 c1 => ?_)
        refine K.GL.det (K.e_assign rfl) rfl ?_
        refine K.GL.nil ?_
        refine K.GQ.go ?_
        refine K.GC.ret ?_
        refine K.GQ.ret1 Try.results21 rfl (fun w hT => ?_)
        first
          | (obtain ⟨x1, _, x3⟩ := x_not hno
             rw [x1]
             exact ⟨gr, rfl, h9, (x3 _).symm, hT⟩)
          | (obtain ⟨x1, _, x3⟩ := x_at ho2 hoi hob
             rw [x1]
             refine ⟨⟨gr.l.set i ⟨pinF is o.x, o.a, o.c⟩, a1, c1⟩, rfl, ?_, ?_, hT.sub K.sb⟩
             · show SvOk (gr.l.set i _)
               rw [set_mid ho2]
               exact set_ok h9 (h9 o (List.mem_of_getElem? ho2))
             · show (gr.l.set i _).map OE.x = _
               rw [set_mid ho2, x3])
          | (exfalso; omega)
section
variable {ops : Array Oper} {Q : Exit → Act → World → Prop} {N : Nat} {U : Env} {w0 : World} {L0 L F : List Res} {ty : TypeId} {rest : List Oper} {pos : String} {after : Array Edge} {xs : List Operand} {tys : Array TypeId} {dT : Tmp}
theorem gl_rpin_con {rp : Nat} {gr : RI} {k : Int} {is : Bool}  {F1 : List Res}(hf : ∀ args w, (callFunc 21 args).run Try.prog w = .ok (.enter 21 args) w) (hx : opvs U xs = some [.pointer (some ⟨rp, 0, none⟩), .int .i64 k, .bool is]) [p1 : PkI L rp gr F1] (h9 : SvOk gr.l) (hz : gr.l.length ≤ 9000) (hd : Nat.ble (dT + 1) N = true)
    (hr : ∀ (g' : RI), SvOk g'.l → g'.xs = xmod k (pinF is) gr.xs → GL Try.prog ops Q rest N ((dT, .bool (xget k gr.xs).isSome) :: U) w0 L0 (RefI rp g' :: F1)) : GL Try.prog ops Q (⟨some dT, .call ⟨.value (.func 21), xs.toArray, tys⟩, ty, pos, after, Option.none⟩ :: rest) N U w0 L0 L :=
  GL.callM (α := (RI)) (l := [RefI rp gr]) (Pv := fun y v => v = .bool (xget k gr.xs).isSome ∧ SvOk y.l ∧ y.xs = xmod k (pinF is) gr.xs) (l' := fun y => [RefI rp y]) hf hx (p1.out)
    (fun w hT => by
      have hT1 : Tr w0 L0 w ([RefI rp gr] ++ F1) := hT.sub (p1.out); have hd0 := Disj.left hT1.disj; have ho0 := fun r hr => hT1.ok r (List.mem_append_left _ hr); exact (rpin_con h9 hz hd0 ho0).mono fun e w' ⟨g', h1, g0, g1, h2⟩ => ⟨(g'), _, h1, ⟨rfl, g0, g1⟩, h2⟩) hd fun y v hv => by obtain ⟨rfl, g0, g1⟩ := hv; exact hr y g0 g1
end
/- (*turntable/turntableref14.Index).Class -/
set_option maxHeartbeats 2000000 in
set_option maxRecDepth 100000 in
theorem rclass_con {rp : Nat} {gr : RI} {k : Int} {cls : Int} {w : World} (h9 : SvOk gr.l) (hz : gr.l.length ≤ 9000) (hd : Disj [RefI rp gr]) (ho : ∀ r ∈ ([RefI rp gr] : List Res), r.ok w.heap) :
    Calls Try.prog 22 #[.pointer (some ⟨rp, 0, none⟩), .int .i64 k, .int .i64 cls] w fun e w' => ∃ g' : RI, e = .returned (.bool (xget k gr.xs).isSome) ∧ SvOk g'.l ∧ g'.xs = xmod k (clsF cls) gr.xs ∧ Tr w [RefI rp gr] w' [RefI rp g'] := by
  refine K.enter (args := [_, _, _]) Try.func22 rfl Try.ntmps22 rfl hd ho ?_
  refine K.GC.seq ?_
  refine K.GC.region ?_
  refine K.GL.det (K.e_assign rfl) rfl ?_
  refine K.GL.nil ?_
  refine K.GQ.go ?_
  refine K.GC.seq ?_
  refine K.GC.region ?_
  refine K.GL.det (K.e_move rfl) rfl ?_
  refine K.GL.det (K.e_move rfl) rfl ?_
  refine gl_rat_con Try.call40 rfl (by first | assumption | omega | rfl | decide) rfl (?_)
  refine K.GL.det (K.e_assign rfl) rfl ?_
  refine K.GL.nil ?_
  refine K.GQ.go ?_
  refine K.GC.seq ?_
  refine K.GC.seq ?_
  rcases atI_cases k gr.l with ⟨hat, hno⟩ | ⟨i, o, hat, ho2, hoi, hob⟩
  all_goals rw [hat]
  all_goals
    refine K.GC.region ?_
    refine K.GL.det (K.e_move rfl) rfl ?_
    first | refine K.GL.det ((K.e_lt rfl rfl).yes (by first | omega | assumption | decide +kernel)) rfl ?_ | refine K.GL.det ((K.e_lt rfl rfl).no (by first | omega | assumption | decide +kernel)) rfl ?_ | refine K.GL.det (K.e_lt rfl rfl) rfl ?_
    refine K.GL.nil ?_
    refine K.GQ.go ?_
    refine K.GC.condB rfl (fun h1 => ?_) (fun h1 => ?_)
    · first
      | exact absurd h1 (by decide)
      | try replace h1 := of_decide_eq_true h1
        refine K.GC.seq ?_
        refine K.GC.region ?_
        refine K.GL.det (K.e_assign rfl) rfl ?_
        refine K.GL.nil ?_
        refine K.GQ.go ?_
        refine K.GC.ret ?_
        refine K.GQ.then_ret ?_
        refine K.GQ.ret1 Try.results22 rfl (fun w hT => ?_)
        first
          | (obtain ⟨x1, _, x3⟩ := x_not hno
             rw [x1]
             exact ⟨gr, rfl, h9, (x3 _).symm, hT⟩)
          | (obtain ⟨x1, _, x3⟩ := x_at ho2 hoi hob
             rw [x1]
             refine ⟨⟨gr.l.set i ⟨clsF cls o.x, o.a, o.c⟩, a1, c1⟩, rfl, ?_, ?_, hT.sub K.sb⟩
             · show SvOk (gr.l.set i _)
               rw [set_mid ho2]
               exact set_ok h9 (h9 o (List.mem_of_getElem? ho2))
             · show (gr.l.set i _).map OE.x = _
               rw [set_mid ho2, x3])
          | (exfalso; omega)
    · first
      | exact absurd h1 (by decide)
      | try replace h1 := of_decide_eq_false h1
        refine K.GC.skip ?_
        refine K.GQ.go ?_
        refine K.GC.seq ?_
        refine K.GC.opened1 ?_
        have hil := (List.getElem?_eq_some_iff.1 ho2).1
        refine K.GC.region ?_
        refine K.GL.det (K.e_move rfl) rfl ?_
        refine K.GL.det (K.e_nilCheck rfl) rfl ?_
        first | refine K.GL.det (K.e_fa fo68_0 rfl) rfl ?_ | refine K.GL.det (K.e_fieldAddr fo68_0 rfl) rfl ?_
        refine K.GL.det (K.e_load Try.isAgg53 rfl rfl) rfl ?_
        refine K.GL.det (K.e_move rfl) rfl ?_
        first | refine K.GL.ixK sl53 rfl rfl rfl rfl (by assumption) rfl ?_ | refine K.GL.ix sl53 rfl rfl rfl rfl (by omega) rfl (fun q19 hq19 => ?_) | refine K.GL.ixI sl53 rfl rfl rfl rfl (by omega) (by omega) rfl (fun q19 hq19 => ?_) | refine K.GL.det (K.e_indexAddrS sl53 rfl rfl (by assumption) (by omega) (by omega)) rfl ?_ | refine K.GL.det (K.e_indexAddr sl53 rfl rfl (by omega) (by omega)) rfl ?_
        refine K.GL.det (K.e_ldA (l := gr.l) (e := encOE) Try.isAgg33 Try.sizeOf33 rfl rfl ho2) rfl ?_
        refine K.GL.alloc Try.zeroValue33 rfl rfl (fun b8 => ?_)
        refine K.GL.storeP (vs := encE o.x o.a o.c) (cs' := encE o.x o.a o.c) rfl rfl rfl Try.sizeOf33 rfl rfl (by exact spliceO_all rfl) ?_
        refine K.GL.nil ?_
        refine K.GQ.go ?_
        refine K.GC.seq ?_
        refine K.GC.region ?_
        refine K.GL.det (K.e_move rfl) rfl ?_
        first | refine K.GL.det (K.e_fa fo33_0 rfl) rfl ?_ | refine K.GL.det (K.e_fieldAddr fo33_0 rfl) rfl ?_
        first | refine K.GL.det (K.e_fa fo28_1 rfl) rfl ?_ | refine K.GL.det (K.e_fieldAddr fo28_1 rfl) rfl ?_
        refine K.GL.store rfl rfl rfl Try.sizeOf3 rfl rfl ?_
        refine K.GL.nil ?_
        refine K.GQ.go ?_
        refine K.GC.seq ?_
        refine K.GC.res (L' := [cl b8 33 (encE (clsF cls o.x) o.a o.c), cl rp 68 [.slice gr.a gr.l.length gr.c], trow gr.a gr.c 33 encOE gr.l, all (gr.l.map svR)]) ?_ (K.Sub.refl _)
        refine K.GC.tr (L' := [RefI rp gr, cl b8 33 (encE (clsF cls o.x) o.a o.c)]) (fun w hT => RefI.of (hT.sub K.sb)) ?_
        refine K.GC.region ?_
        refine K.GL.det (K.e_move rfl) rfl ?_
        refine K.GL.det (K.e_move rfl) rfl ?_
        first | refine K.GL.det (K.e_ldA Try.isAgg33 Try.sizeOf33 rfl rfl (by assumption)) rfl ?_ | refine K.GL.det (K.e_ldAF Try.isAgg33 Try.sizeOf33 rfl rfl (by assumption) rfl) rfl ?_ | refine K.GL.det (K.e_loads Try.isAgg33 Try.sizeOf33 rfl rfl) rfl ?_
        refine gl_rset_con (i := i) (o := o) (x := clsF cls o.x) Try.call41 rfl ho2 rfl hz rfl (fun a1 c1 => ?_)
        refine K.GL.det (K.e_assign rfl) rfl ?_
        refine K.GL.nil ?_
        refine K.GQ.go ?_
        refine K.GC.ret ?_
        refine K.GQ.ret1 Try.results22 rfl (fun w hT => ?_)
        first
          | (obtain ⟨x1, _, x3⟩ := x_not hno
             rw [x1]
             exact ⟨gr, rfl, h9, (x3 _).symm, hT⟩)
          | (obtain ⟨x1, _, x3⟩ := x_at ho2 hoi hob
             rw [x1]
             refine ⟨⟨gr.l.set i ⟨clsF cls o.x, o.a, o.c⟩, a1, c1⟩, rfl, ?_, ?_, hT.sub K.sb⟩
             · show SvOk (gr.l.set i _)
               rw [set_mid ho2]
               exact set_ok h9 (h9 o (List.mem_of_getElem? ho2))
             · show (gr.l.set i _).map OE.x = _
               rw [set_mid ho2, x3])
          | (exfalso; omega)
section
variable {ops : Array Oper} {Q : Exit → Act → World → Prop} {N : Nat} {U : Env} {w0 : World} {L0 L F : List Res} {ty : TypeId} {rest : List Oper} {pos : String} {after : Array Edge} {xs : List Operand} {tys : Array TypeId} {dT : Tmp}
theorem gl_rclass_con {rp : Nat} {gr : RI} {k : Int} {cls : Int}  {F1 : List Res}(hf : ∀ args w, (callFunc 22 args).run Try.prog w = .ok (.enter 22 args) w) (hx : opvs U xs = some [.pointer (some ⟨rp, 0, none⟩), .int .i64 k, .int .i64 cls]) [p1 : PkI L rp gr F1] (h9 : SvOk gr.l) (hz : gr.l.length ≤ 9000) (hd : Nat.ble (dT + 1) N = true)
    (hr : ∀ (g' : RI), SvOk g'.l → g'.xs = xmod k (clsF cls) gr.xs → GL Try.prog ops Q rest N ((dT, .bool (xget k gr.xs).isSome) :: U) w0 L0 (RefI rp g' :: F1)) : GL Try.prog ops Q (⟨some dT, .call ⟨.value (.func 22), xs.toArray, tys⟩, ty, pos, after, Option.none⟩ :: rest) N U w0 L0 L :=
  GL.callM (α := (RI)) (l := [RefI rp gr]) (Pv := fun y v => v = .bool (xget k gr.xs).isSome ∧ SvOk y.l ∧ y.xs = xmod k (clsF cls) gr.xs) (l' := fun y => [RefI rp y]) hf hx (p1.out)
    (fun w hT => by
      have hT1 : Tr w0 L0 w ([RefI rp gr] ++ F1) := hT.sub (p1.out); have hd0 := Disj.left hT1.disj; have ho0 := fun r hr => hT1.ok r (List.mem_append_left _ hr); exact (rclass_con h9 hz hd0 ho0).mono fun e w' ⟨g', h1, g0, g1, h2⟩ => ⟨(g'), _, h1, ⟨rfl, g0, g1⟩, h2⟩) hd fun y v hv => by obtain ⟨rfl, g0, g1⟩ := hv; exact hr y g0 g1
end
/- (*turntable/turntableref14.Index).Move -/
set_option maxHeartbeats 2000000 in
set_option maxRecDepth 100000 in
theorem rmove_con {rp : Nat} {gr : RI} {k : Int} {seq at_ size : Int} {w : World} (h9 : SvOk gr.l) (hz : gr.l.length ≤ 9000) (hd : Disj [RefI rp gr]) (ho : ∀ r ∈ ([RefI rp gr] : List Res), r.ok w.heap) :
    Calls Try.prog 23 #[.pointer (some ⟨rp, 0, none⟩), .int .i64 k, .int .i64 seq, .int .i64 at_, .int .i64 size] w fun e w' => ∃ g' : RI, e = .returned (.bool (xget k gr.xs).isSome) ∧ SvOk g'.l ∧ g'.xs = xmod k (movF seq at_ size) gr.xs ∧ Tr w [RefI rp gr] w' [RefI rp g'] := by
  refine K.enter (args := [_, _, _, _, _]) Try.func23 rfl Try.ntmps23 rfl hd ho ?_
  refine K.GC.seq ?_
  refine K.GC.region ?_
  refine K.GL.det (K.e_assign rfl) rfl ?_
  refine K.GL.nil ?_
  refine K.GQ.go ?_
  refine K.GC.seq ?_
  refine K.GC.region ?_
  refine K.GL.det (K.e_move rfl) rfl ?_
  refine K.GL.det (K.e_move rfl) rfl ?_
  refine gl_rat_con Try.call40 rfl (by first | assumption | omega | rfl | decide) rfl (?_)
  refine K.GL.det (K.e_assign rfl) rfl ?_
  refine K.GL.nil ?_
  refine K.GQ.go ?_
  refine K.GC.seq ?_
  refine K.GC.seq ?_
  rcases atI_cases k gr.l with ⟨hat, hno⟩ | ⟨i, o, hat, ho2, hoi, hob⟩
  all_goals rw [hat]
  all_goals
    refine K.GC.region ?_
    refine K.GL.det (K.e_move rfl) rfl ?_
    first | refine K.GL.det ((K.e_lt rfl rfl).yes (by first | omega | assumption | decide +kernel)) rfl ?_ | refine K.GL.det ((K.e_lt rfl rfl).no (by first | omega | assumption | decide +kernel)) rfl ?_ | refine K.GL.det (K.e_lt rfl rfl) rfl ?_
    refine K.GL.nil ?_
    refine K.GQ.go ?_
    refine K.GC.condB rfl (fun h1 => ?_) (fun h1 => ?_)
    · first
      | exact absurd h1 (by decide)
      | try replace h1 := of_decide_eq_true h1
        refine K.GC.seq ?_
        refine K.GC.region ?_
        refine K.GL.det (K.e_assign rfl) rfl ?_
        refine K.GL.nil ?_
        refine K.GQ.go ?_
        refine K.GC.ret ?_
        refine K.GQ.then_ret ?_
        refine K.GQ.ret1 Try.results23 rfl (fun w hT => ?_)
        first
          | (obtain ⟨x1, _, x3⟩ := x_not hno
             rw [x1]
             exact ⟨gr, rfl, h9, (x3 _).symm, hT⟩)
          | (obtain ⟨x1, _, x3⟩ := x_at ho2 hoi hob
             rw [x1]
             refine ⟨⟨gr.l.set i ⟨movF seq at_ size o.x, o.a, o.c⟩, a1, c1⟩, rfl, ?_, ?_, hT.sub K.sb⟩
             · show SvOk (gr.l.set i _)
               rw [set_mid ho2]
               exact set_ok h9 (h9 o (List.mem_of_getElem? ho2))
             · show (gr.l.set i _).map OE.x = _
               rw [set_mid ho2, x3])
          | (exfalso; omega)
    · first
      | exact absurd h1 (by decide)
      | try replace h1 := of_decide_eq_false h1
        refine K.GC.skip ?_
        refine K.GQ.go ?_
        refine K.GC.seq ?_
        refine K.GC.opened1 ?_
        have hil := (List.getElem?_eq_some_iff.1 ho2).1
        refine K.GC.region ?_
        refine K.GL.det (K.e_move rfl) rfl ?_
        refine K.GL.det (K.e_nilCheck rfl) rfl ?_
        first | refine K.GL.det (K.e_fa fo68_0 rfl) rfl ?_ | refine K.GL.det (K.e_fieldAddr fo68_0 rfl) rfl ?_
        refine K.GL.det (K.e_load Try.isAgg53 rfl rfl) rfl ?_
        refine K.GL.det (K.e_move rfl) rfl ?_
        first | refine K.GL.ixK sl53 rfl rfl rfl rfl (by assumption) rfl ?_ | refine K.GL.ix sl53 rfl rfl rfl rfl (by omega) rfl (fun q23 hq23 => ?_) | refine K.GL.ixI sl53 rfl rfl rfl rfl (by omega) (by omega) rfl (fun q23 hq23 => ?_) | refine K.GL.det (K.e_indexAddrS sl53 rfl rfl (by assumption) (by omega) (by omega)) rfl ?_ | refine K.GL.det (K.e_indexAddr sl53 rfl rfl (by omega) (by omega)) rfl ?_
        refine K.GL.det (K.e_ldA (l := gr.l) (e := encOE) Try.isAgg33 Try.sizeOf33 rfl rfl ho2) rfl ?_
        refine K.GL.alloc Try.zeroValue33 rfl rfl (fun b12 => ?_)
        refine K.GL.storeP (vs := encE o.x o.a o.c) (cs' := encE o.x o.a o.c) rfl rfl rfl Try.sizeOf33 rfl rfl (by exact spliceO_all rfl) ?_
        refine K.GL.nil ?_
        refine K.GQ.go ?_
        refine K.GC.seq ?_
        refine K.GC.region ?_
        refine K.GL.det (K.e_move rfl) rfl ?_
        first | refine K.GL.det (K.e_fa fo33_2 rfl) rfl ?_ | refine K.GL.det (K.e_fieldAddr fo33_2 rfl) rfl ?_
        refine K.GL.store rfl rfl rfl Try.sizeOf2 rfl rfl ?_
        refine K.GL.nil ?_
        refine K.GQ.go ?_
        refine K.GC.seq ?_
        refine K.GC.region ?_
        refine K.GL.det (K.e_move rfl) rfl ?_
        first | refine K.GL.det (K.e_fa fo33_3 rfl) rfl ?_ | refine K.GL.det (K.e_fieldAddr fo33_3 rfl) rfl ?_
        refine K.GL.store rfl rfl rfl Try.sizeOf3 rfl rfl ?_
        refine K.GL.nil ?_
        refine K.GQ.go ?_
        refine K.GC.seq ?_
        refine K.GC.region ?_
        refine K.GL.det (K.e_move rfl) rfl ?_
        first | refine K.GL.det (K.e_fa fo33_4 rfl) rfl ?_ | refine K.GL.det (K.e_fieldAddr fo33_4 rfl) rfl ?_
        refine K.GL.store rfl rfl rfl Try.sizeOf3 rfl rfl ?_
        refine K.GL.nil ?_
        refine K.GQ.go ?_
        refine K.GC.seq ?_
        refine K.GC.res (L' := [cl b12 33 (encE (movF seq at_ size o.x) o.a o.c), cl rp 68 [.slice gr.a gr.l.length gr.c], trow gr.a gr.c 33 encOE gr.l, all (gr.l.map svR)]) ?_ (K.Sub.refl _)
        refine K.GC.tr (L' := [RefI rp gr, cl b12 33 (encE (movF seq at_ size o.x) o.a o.c)]) (fun w hT => RefI.of (hT.sub K.sb)) ?_
        refine K.GC.region ?_
        refine K.GL.det (K.e_move rfl) rfl ?_
        refine K.GL.det (K.e_move rfl) rfl ?_
        first | refine K.GL.det (K.e_ldA Try.isAgg33 Try.sizeOf33 rfl rfl (by assumption)) rfl ?_ | refine K.GL.det (K.e_ldAF Try.isAgg33 Try.sizeOf33 rfl rfl (by assumption) rfl) rfl ?_ | refine K.GL.det (K.e_loads Try.isAgg33 Try.sizeOf33 rfl rfl) rfl ?_
        refine gl_rset_con (i := i) (o := o) (x := movF seq at_ size o.x) Try.call41 rfl ho2 rfl hz rfl (fun a1 c1 => ?_)
        refine K.GL.det (K.e_assign rfl) rfl ?_
        refine K.GL.nil ?_
        refine K.GQ.go ?_
        refine K.GC.ret ?_
        refine K.GQ.ret1 Try.results23 rfl (fun w hT => ?_)
        first
          | (obtain ⟨x1, _, x3⟩ := x_not hno
             rw [x1]
             exact ⟨gr, rfl, h9, (x3 _).symm, hT⟩)
          | (obtain ⟨x1, _, x3⟩ := x_at ho2 hoi hob
             rw [x1]
             refine ⟨⟨gr.l.set i ⟨movF seq at_ size o.x, o.a, o.c⟩, a1, c1⟩, rfl, ?_, ?_, hT.sub K.sb⟩
             · show SvOk (gr.l.set i _)
               rw [set_mid ho2]
               exact set_ok h9 (h9 o (List.mem_of_getElem? ho2))
             · show (gr.l.set i _).map OE.x = _
               rw [set_mid ho2, x3])
          | (exfalso; omega)
section
variable {ops : Array Oper} {Q : Exit → Act → World → Prop} {N : Nat} {U : Env} {w0 : World} {L0 L F : List Res} {ty : TypeId} {rest : List Oper} {pos : String} {after : Array Edge} {xs : List Operand} {tys : Array TypeId} {dT : Tmp}
theorem gl_rmove_con {rp : Nat} {gr : RI} {k : Int} {seq at_ size : Int}  {F1 : List Res}(hf : ∀ args w, (callFunc 23 args).run Try.prog w = .ok (.enter 23 args) w) (hx : opvs U xs = some [.pointer (some ⟨rp, 0, none⟩), .int .i64 k, .int .i64 seq, .int .i64 at_, .int .i64 size]) [p1 : PkI L rp gr F1] (h9 : SvOk gr.l) (hz : gr.l.length ≤ 9000) (hd : Nat.ble (dT + 1) N = true)
    (hr : ∀ (g' : RI), SvOk g'.l → g'.xs = xmod k (movF seq at_ size) gr.xs → GL Try.prog ops Q rest N ((dT, .bool (xget k gr.xs).isSome) :: U) w0 L0 (RefI rp g' :: F1)) : GL Try.prog ops Q (⟨some dT, .call ⟨.value (.func 23), xs.toArray, tys⟩, ty, pos, after, Option.none⟩ :: rest) N U w0 L0 L :=
  GL.callM (α := (RI)) (l := [RefI rp gr]) (Pv := fun y v => v = .bool (xget k gr.xs).isSome ∧ SvOk y.l ∧ y.xs = xmod k (movF seq at_ size) gr.xs) (l' := fun y => [RefI rp y]) hf hx (p1.out)
    (fun w hT => by
      have hT1 : Tr w0 L0 w ([RefI rp gr] ++ F1) := hT.sub (p1.out); have hd0 := Disj.left hT1.disj; have ho0 := fun r hr => hT1.ok r (List.mem_append_left _ hr); exact (rmove_con h9 hz hd0 ho0).mono fun e w' ⟨g', h1, g0, g1, h2⟩ => ⟨(g'), _, h1, ⟨rfl, g0, g1⟩, h2⟩) hd fun y v hv => by obtain ⟨rfl, g0, g1⟩ := hv; exact hr y g0 g1
end
/- (*turntable/turntableref14.Index).Get -/
set_option maxHeartbeats 2000000 in
set_option maxRecDepth 100000 in
theorem rgt_con {rp : Nat} {gr : RI} {k : Int} {w : World} (h9 : SvOk gr.l) (hz : gr.l.length ≤ 9000) (hd : Disj [RefI rp gr]) (ho : ∀ r ∈ ([RefI rp gr] : List Res), r.ok w.heap) :
    Calls Try.prog 25 #[.pointer (some ⟨rp, 0, none⟩), .int .i64 k] w fun e w' => ∃ a' : Option Addr, ∃ c' : Nat, e = .returned (.tuple #[.agg (encE ((xget k gr.xs).getD EX.zero) a' c').toArray, .bool (xget k gr.xs).isSome]) ∧ Tr w [RefI rp gr] w' [trow a' c' 9 K.encS ((xget k gr.xs).getD EX.zero).sv, RefI rp gr] := by
  refine K.enter (args := [_, _]) Try.func25 rfl Try.ntmps25 rfl hd ho ?_
  refine K.GC.seq ?_
  refine K.GC.region ?_
  refine K.GL.alloc Try.zeroValue33 rfl rfl (fun b4 => ?_)
  refine K.GL.det (K.e_assign rfl) rfl ?_
  refine K.GL.nil ?_
  refine K.GQ.go ?_
  refine K.GC.seq ?_
  refine K.GC.region ?_
  refine K.GL.det (K.e_move rfl) rfl ?_
  refine K.GL.det (K.e_move rfl) rfl ?_
  refine gl_rat_con Try.call40 rfl (by first | assumption | omega | rfl | decide) rfl (?_)
  refine K.GL.det (K.e_assign rfl) rfl ?_
  refine K.GL.nil ?_
  refine K.GQ.go ?_
  refine K.GC.seq ?_
  refine K.GC.seq ?_
  rcases atI_cases k gr.l with ⟨hat, hno⟩ | ⟨i, o, hat, ho2, hoi, hob⟩
  all_goals rw [hat]
  all_goals
    refine K.GC.region ?_
    refine K.GL.det (K.e_move rfl) rfl ?_
    first | refine K.GL.det ((K.e_lt rfl rfl).yes (by first | omega | assumption | decide +kernel)) rfl ?_ | refine K.GL.det ((K.e_lt rfl rfl).no (by first | omega | assumption | decide +kernel)) rfl ?_ | refine K.GL.det (K.e_lt rfl rfl) rfl ?_
    refine K.GL.nil ?_
    refine K.GQ.go ?_
    refine K.GC.condB rfl (fun h1 => ?_) (fun h1 => ?_)
    · first
      | exact absurd h1 (by decide)
      | try replace h1 := of_decide_eq_true h1
        refine K.GC.seq ?_
        refine K.GC.region ?_
        refine K.GL.det (K.e_build lay33 rfl) rfl ?_
        refine K.GL.storeP (vs := encE EX.zero none 0) (cs' := encE EX.zero none 0) rfl rfl rfl Try.sizeOf33 rfl rfl (by exact spliceO_all rfl) ?_
        refine K.GL.det (K.e_assign rfl) rfl ?_
        refine K.GL.nil ?_
        refine K.GQ.go ?_
        refine K.GC.ret ?_
        refine K.GQ.then_ret ?_
        refine K.GQ.ret_ct Try.results25 Try.isAgg33 Try.sizeOf33 rfl rfl rfl (fun w hT => ?_)
        first
          | (obtain ⟨x1, _, _⟩ := x_not hno
             rw [x1]
             exact ⟨none, 0, rfl, (hT.sub (L' := [RefI rp gr]) K.sb).trow_nil 9 K.encS⟩)
          | (obtain ⟨x1, _, _⟩ := x_at ho2 hoi hob
             rw [x1]
             exact ⟨a20, c20, rfl, rclose (x := trow a20 c20 9 K.encS o.x.sv) (hT.sub K.sb)⟩)
          | (exfalso; omega)
    · first
      | exact absurd h1 (by decide)
      | try replace h1 := of_decide_eq_false h1
        refine K.GC.skip ?_
        refine K.GQ.go ?_
        refine K.GC.seq ?_
        refine K.GC.res (L' := [RefI rp gr, cl b4 33 (encE EX.zero none 0)]) ?_ (K.Sub.refl _)
        refine K.GC.tr (L' := [cl rp 68 [.slice gr.a gr.l.length gr.c], trow gr.a gr.c 33 encOE gr.l, all (gr.l.map svR), cl b4 33 (encE EX.zero none 0)]) (fun w hT => ropen hT) ?_
        have hil := (List.getElem?_eq_some_iff.1 ho2).1
        refine K.GC.region ?_
        refine K.GL.det (K.e_move rfl) rfl ?_
        refine K.GL.det (K.e_nilCheck rfl) rfl ?_
        first | refine K.GL.det (K.e_fa fo68_0 rfl) rfl ?_ | refine K.GL.det (K.e_fieldAddr fo68_0 rfl) rfl ?_
        refine K.GL.det (K.e_load Try.isAgg53 rfl rfl) rfl ?_
        refine K.GL.det (K.e_move rfl) rfl ?_
        first | refine K.GL.ixK sl53 rfl rfl rfl rfl (by assumption) rfl ?_ | refine K.GL.ix sl53 rfl rfl rfl rfl (by omega) rfl (fun q18 hq18 => ?_) | refine K.GL.ixI sl53 rfl rfl rfl rfl (by omega) (by omega) rfl (fun q18 hq18 => ?_) | refine K.GL.det (K.e_indexAddrS sl53 rfl rfl (by assumption) (by omega) (by omega)) rfl ?_ | refine K.GL.det (K.e_indexAddr sl53 rfl rfl (by omega) (by omega)) rfl ?_
        refine K.GL.det (K.e_ldA (l := gr.l) (e := encOE) Try.isAgg33 Try.sizeOf33 rfl rfl ho2) rfl ?_
        refine gl_rown_con (q := o) (o0 := rdc_sv (l := gr.l) (List.mem_of_getElem? ho2)) Try.call42 rfl (h9 _ (List.mem_of_getElem? ho2)) rfl (fun a20 c20 => ?_)
        refine K.GL.storeP (vs := encE o.x a20 c20) (cs' := encE o.x a20 c20) rfl rfl rfl Try.sizeOf33 rfl rfl (by exact spliceO_all rfl) ?_
        refine K.GL.det (K.e_assign rfl) rfl ?_
        refine K.GL.nil ?_
        refine K.GQ.go ?_
        refine K.GC.ret ?_
        refine K.GQ.ret_ct Try.results25 Try.isAgg33 Try.sizeOf33 rfl rfl rfl (fun w hT => ?_)
        first
          | (obtain ⟨x1, _, _⟩ := x_not hno
             rw [x1]
             exact ⟨none, 0, rfl, (hT.sub (L' := [RefI rp gr]) K.sb).trow_nil 9 K.encS⟩)
          | (obtain ⟨x1, _, _⟩ := x_at ho2 hoi hob
             rw [x1]
             exact ⟨a20, c20, rfl, rclose (x := trow a20 c20 9 K.encS o.x.sv) (hT.sub K.sb)⟩)
          | (exfalso; omega)
section
variable {ops : Array Oper} {Q : Exit → Act → World → Prop} {N : Nat} {U : Env} {w0 : World} {L0 L F : List Res} {ty : TypeId} {rest : List Oper} {pos : String} {after : Array Edge} {xs : List Operand} {tys : Array TypeId} {dT : Tmp}
theorem gl_rgt_con {rp : Nat} {gr : RI} {k : Int}  {F1 : List Res}(hf : ∀ args w, (callFunc 25 args).run Try.prog w = .ok (.enter 25 args) w) (hx : opvs U xs = some [.pointer (some ⟨rp, 0, none⟩), .int .i64 k]) [p1 : PkI L rp gr F1] (h9 : SvOk gr.l) (hz : gr.l.length ≤ 9000) (hd : Nat.ble (dT + 1) N = true)
    (hr : ∀ (a' : Option Addr) (c' : Nat), GL Try.prog ops Q rest N ((dT, .tuple #[.agg (encE ((xget k gr.xs).getD EX.zero) a' c').toArray, .bool (xget k gr.xs).isSome]) :: U) w0 L0 (trow a' c' 9 K.encS ((xget k gr.xs).getD EX.zero).sv :: RefI rp gr :: F1)) : GL Try.prog ops Q (⟨some dT, .call ⟨.value (.func 25), xs.toArray, tys⟩, ty, pos, after, Option.none⟩ :: rest) N U w0 L0 L :=
  GL.callM (α := (Option Addr) × (Nat)) (l := [RefI rp gr]) (Pv := fun y v => v = .tuple #[.agg (encE ((xget k gr.xs).getD EX.zero) y.1 y.2).toArray, .bool (xget k gr.xs).isSome]) (l' := fun y => [trow y.1 y.2 9 K.encS ((xget k gr.xs).getD EX.zero).sv, RefI rp gr]) hf hx (p1.out)
    (fun w hT => by
      have hT1 : Tr w0 L0 w ([RefI rp gr] ++ F1) := hT.sub (p1.out); have hd0 := Disj.left hT1.disj; have ho0 := fun r hr => hT1.ok r (List.mem_append_left _ hr); exact (rgt_con h9 hz hd0 ho0).mono fun e w' ⟨a', c', h1, h2⟩ => ⟨(a', c'), _, h1, rfl, h2⟩) hd fun y v hv => by subst hv; exact hr y.1 y.2 
end
/- (*turntable/turntableref14.Index).All -/
set_option maxHeartbeats 2000000 in
set_option maxRecDepth 100000 in
theorem rall_con {rp : Nat} {gr : RI} {w : World} (h9 : SvOk gr.l) (hz : gr.l.length ≤ 9000) (hd : Disj [RefI rp gr]) (ho : ∀ r ∈ ([RefI rp gr] : List Res), r.ok w.heap) :
    Calls Try.prog 33 #[.pointer (some ⟨rp, 0, none⟩)] w fun e w' => ∃ l' : List OE, ∃ a' : Option Addr, ∃ c' : Nat, e = .returned (.slice a' l'.length c') ∧ l'.map OE.x = gr.xs ∧ SvOk l' ∧ Tr w [RefI rp gr] w' [trow a' c' 33 encOE l', all (l'.map svR), RefI rp gr] := by
  refine K.enter (args := [_]) Try.func33 rfl Try.ntmps33 rfl hd ho ?_
  refine K.GC.opened1 ?_
  refine K.GC.seq ?_
  refine K.GC.region ?_
  refine K.GL.det (K.e_assign rfl) rfl ?_
  refine K.GL.nil ?_
  refine K.GQ.go ?_
  refine K.GC.seq ?_
  refine K.GC.region ?_
  refine K.GL.det (K.e_assign rfl) rfl ?_
  refine K.GL.nil ?_
  refine K.GQ.go ?_
  refine K.GC.seq ?_
  refine K.GC.seq ?_
  refine K.GC.region ?_
  refine K.GL.det (K.e_assign rfl) rfl ?_
  refine K.GL.nil ?_
  refine K.GQ.go ?_
  refine K.GC.block ?_
  refine K.GC.trow0 33 encOE ?_
  refine K.GC.tr (L' := [all (([] : List OE).map svR), trow none 0 33 encOE [], cl rp 68 [.slice gr.a gr.l.length gr.c], trow gr.a gr.c 33 encOE gr.l, all (gr.l.map svR)]) (fun w hT => Tr.closed (l := []) hT) ?_
  refine K.GC.loopk (α := Nat × List OE × Option Addr × Nat) [0, 2, 25] rfl (fun x => [(3, .slice x.2.2.1 x.2.1.length x.2.2.2), (4, .int .i64 (x.1 : Int))]) (fun x => [all (x.2.1.map svR), trow x.2.2.1 x.2.2.2 33 encOE x.2.1, cl rp 68 [.slice gr.a gr.l.length gr.c], trow gr.a gr.c 33 encOE gr.l, all (gr.l.map svR)]) (fun x => x.1 ≤ gr.l.length ∧ x.2.1.map OE.x = (gr.l.take x.1).map OE.x ∧ SvOk x.2.1) (fun x => (gr.l.length - x.1)) (0, [], none, 0) ⟨Nat.zero_le _, rfl, fun o h => by cases h⟩ (by first | ((repeat refine ⟨rfl, ?_⟩); exact trivial) | (simp only [List.take_zero, List.map_nil, List.flatMap_nil, List.append_nil]; (repeat refine ⟨rfl, ?_⟩); exact trivial)) (by first | exact K.sb | (dsimp only; exact K.sb) | (simp only [List.take_zero, List.map_nil, List.flatMap_nil, List.append_nil]; exact K.sb) | exact K.Sub.refl _) (fun x hI => ?_)
  have hx1 := hI.1
  have hxl : x.2.1.length ≤ x.1 := by
    have h := congrArg List.length hI.2.1
    rw [List.length_map, List.length_map, List.length_take] at h
    omega
  refine K.GC.seq ?_
  refine K.GC.seq ?_
  refine K.GC.region ?_
  refine K.GL.det (K.e_move rfl) rfl ?_
  refine K.GL.det (K.e_move rfl) rfl ?_
  refine K.GL.det (K.e_nilCheck rfl) rfl ?_
  first | refine K.GL.det (K.e_fa fo68_0 rfl) rfl ?_ | refine K.GL.det (K.e_fieldAddr fo68_0 rfl) rfl ?_
  refine K.GL.det (K.e_load Try.isAgg53 rfl rfl) rfl ?_
  refine K.GL.det (K.e_len Try.underlying53 rfl) rfl ?_
  first | refine K.GL.det ((K.e_lt rfl rfl).yes (by first | omega | assumption | decide +kernel)) rfl ?_ | refine K.GL.det ((K.e_lt rfl rfl).no (by first | omega | assumption | decide +kernel)) rfl ?_ | refine K.GL.det (K.e_lt rfl rfl) rfl ?_
  refine K.GL.nil ?_
  refine K.GQ.go ?_
  refine K.GC.condB rfl (fun h1 => ?_) (fun h1 => ?_)
  · first
    | exact absurd h1 (by decide)
    | try replace h1 := of_decide_eq_true h1
      refine K.GC.skip ?_
      refine K.GQ.go ?_
      refine K.GC.seq ?_
      refine K.GC.block ?_
      obtain ⟨q, hq⟩ : ∃ q, gr.l[x.1]? = some q := get_ex (by omega)
      refine K.GC.region ?_
      refine K.GL.det (K.e_move rfl) rfl ?_
      refine K.GL.det (K.e_move rfl) rfl ?_
      refine K.GL.det (K.e_nilCheck rfl) rfl ?_
      first | refine K.GL.det (K.e_fa fo68_0 rfl) rfl ?_ | refine K.GL.det (K.e_fieldAddr fo68_0 rfl) rfl ?_
      refine K.GL.det (K.e_load Try.isAgg53 rfl rfl) rfl ?_
      refine K.GL.det (K.e_move rfl) rfl ?_
      first | refine K.GL.ixK sl53 rfl rfl rfl rfl (by assumption) rfl ?_ | refine K.GL.ix sl53 rfl rfl rfl rfl (by omega) rfl (fun q20 hq20 => ?_) | refine K.GL.ixI sl53 rfl rfl rfl rfl (by omega) (by omega) rfl (fun q20 hq20 => ?_) | refine K.GL.det (K.e_indexAddrS sl53 rfl rfl (by assumption) (by omega) (by omega)) rfl ?_ | refine K.GL.det (K.e_indexAddr sl53 rfl rfl (by omega) (by omega)) rfl ?_
      refine K.GL.det (K.e_ldA (l := gr.l) (e := encOE) Try.isAgg33 Try.sizeOf33 rfl rfl hq) rfl ?_
      refine gl_rown_con (q := q) (o0 := rdc_sv (l := gr.l) (List.mem_of_getElem? hq)) Try.call42 rfl (h9 _ (List.mem_of_getElem? hq)) rfl (fun a22 c22 => ?_)
      refine K.GL.buildT encOE [(⟨q.x, a22, c22⟩ : OE)] mk53 rfl rfl rfl rfl rfl (fun b23 => ?_)
      first | refine K.GL.appendT mk53 rfl rfl rfl rfl rfl (by first | omega | (simp only [List.length_cons, List.length_nil, List.length_append]; omega)) (by first | omega | (simp only [List.length_cons, List.length_nil, List.length_append]; omega)) rfl (fun a24 c24 => ?_) | (refine K.GL.trow0 33 encOE ?_; refine K.GL.appendT mk53 rfl rfl rfl rfl rfl (by first | omega | (simp only [List.length_cons, List.length_nil, List.length_append]; omega)) (by first | omega | (simp only [List.length_cons, List.length_nil, List.length_append]; omega)) rfl (fun a24 c24 => ?_))
      refine K.GL.det (K.e_assign rfl) rfl ?_
      refine K.GL.nil ?_
      refine K.GQ.block_normal ?_
      refine K.GQ.go ?_
      refine K.GC.tr (L' := [all ((x.2.1 ++ [(⟨q.x, a22, c22⟩ : OE)]).map svR), trow a24 c24 33 encOE (x.2.1 ++ [(⟨q.x, a22, c22⟩ : OE)]), cl rp 68 [.slice gr.a gr.l.length gr.c], trow gr.a gr.c 33 encOE gr.l, all (gr.l.map svR)]) (fun w hT => all_next (trow_sv (hT.sub K.sb))) ?_
      refine K.GC.region ?_
      refine K.GL.det (K.e_move rfl) rfl ?_
      first | refine K.GL.det (K.e_add rfl rfl ⟨by omega, by omega⟩) rfl ?_ | refine K.GL.det (K.e_addw rfl rfl) rfl ?_
      refine K.GL.det (K.e_assign rfl) rfl ?_
      refine K.GL.nil ?_
      exact K.GQ.round ((x.1 + 1, x.2.1 ++ [(⟨q.x, a22, c22⟩ : OE)], a24, c24) : Nat × List OE × Option Addr × Nat) ⟨by show x.1 + 1 ≤ _; omega, by show (x.2.1 ++ [_]).map OE.x = (gr.l.take (x.1 + 1)).map OE.x; rw [take_next hq, List.map_append, hI.2.1]; rfl, fun o ho3 => (List.mem_append.1 ho3).elim (hI.2.2 o) (fun h => by simp only [List.mem_singleton] at h; subst h; exact h9 q (List.mem_of_getElem? hq))⟩ (by simp only; omega) (by (repeat refine ⟨rfl, ?_⟩); exact trivial) (K.Sub.refl _)
  · first
    | exact absurd h1 (by decide)
    | try replace h1 := of_decide_eq_false h1
      refine K.GC.exit ?_
      refine K.GQ.then_exit ?_
      refine K.GQ.then_exit ?_
      refine K.GQ.block_hit ?_
      refine K.GQ.go ?_
      refine K.GC.seq ?_
      refine K.GC.region ?_
      refine K.GL.det (K.e_move rfl) rfl ?_
      refine K.GL.det (K.e_assign rfl) rfl ?_
      refine K.GL.nil ?_
      refine K.GQ.go ?_
      refine K.GC.ret ?_
      refine K.GQ.ret1 Try.results33 rfl (fun w hT => ?_)
      have hx2 : x.1 = gr.l.length := by omega
      have h1 := hI.2.1
      rw [hx2, List.take_length] at h1
      exact ⟨x.2.1, x.2.2.1, x.2.2.2, rfl, h1, hI.2.2, all_close (hT.sub K.sb)⟩
section
variable {ops : Array Oper} {Q : Exit → Act → World → Prop} {N : Nat} {U : Env} {w0 : World} {L0 L F : List Res} {ty : TypeId} {rest : List Oper} {pos : String} {after : Array Edge} {xs : List Operand} {tys : Array TypeId} {dT : Tmp}
theorem gl_rall_con {rp : Nat} {gr : RI}  {F1 : List Res}(hf : ∀ args w, (callFunc 33 args).run Try.prog w = .ok (.enter 33 args) w) (hx : opvs U xs = some [.pointer (some ⟨rp, 0, none⟩)]) [p1 : PkI L rp gr F1] (h9 : SvOk gr.l) (hz : gr.l.length ≤ 9000) (hd : Nat.ble (dT + 1) N = true)
    (hr : ∀ (l' : List OE) (a' : Option Addr) (c' : Nat), l'.map OE.x = gr.xs → SvOk l' → GL Try.prog ops Q rest N ((dT, .slice a' l'.length c') :: U) w0 L0 (trow a' c' 33 encOE l' :: all (l'.map svR) :: RefI rp gr :: F1)) : GL Try.prog ops Q (⟨some dT, .call ⟨.value (.func 33), xs.toArray, tys⟩, ty, pos, after, Option.none⟩ :: rest) N U w0 L0 L :=
  GL.callM (α := (List OE) × (Option Addr) × (Nat)) (l := [RefI rp gr]) (Pv := fun y v => v = .slice y.2.1 y.1.length y.2.2 ∧ y.1.map OE.x = gr.xs ∧ SvOk y.1) (l' := fun y => [trow y.2.1 y.2.2 33 encOE y.1, all (y.1.map svR), RefI rp gr]) hf hx (p1.out)
    (fun w hT => by
      have hT1 : Tr w0 L0 w ([RefI rp gr] ++ F1) := hT.sub (p1.out); have hd0 := Disj.left hT1.disj; have ho0 := fun r hr => hT1.ok r (List.mem_append_left _ hr); exact (rall_con h9 hz hd0 ho0).mono fun e w' ⟨l', a', c', h1, g0, g1, h2⟩ => ⟨(l', a', c'), _, h1, ⟨rfl, g0, g1⟩, h2⟩) hd fun y v hv => by obtain ⟨rfl, g0, g1⟩ := hv; exact hr y.1 y.2.1 y.2.2 g0 g1
end
/- (*turntable/turntableref14.Index).Items -/
set_option maxHeartbeats 2000000 in
set_option maxRecDepth 100000 in
theorem ritems_con {rp : Nat} {gr : RI} {w : World} (hz : gr.l.length ≤ 9000) (hd : Disj [RefI rp gr]) (ho : ∀ r ∈ ([RefI rp gr] : List Res), r.ok w.heap) :
    Calls Try.prog 36 #[.pointer (some ⟨rp, 0, none⟩)] w fun e w' => ∃ a' : Option Addr, ∃ c' : Nat, e = .returned (.slice a' gr.xs.length c') ∧ Tr w [RefI rp gr] w' [trow a' c' 28 encIt gr.xs, RefI rp gr] := by
  refine K.enter (args := [_]) Try.func36 rfl Try.ntmps36 rfl hd ho ?_
  refine K.GC.opened1 ?_
  refine K.GC.seq ?_
  refine K.GC.region ?_
  refine K.GL.det (K.e_assign rfl) rfl ?_
  refine K.GL.nil ?_
  refine K.GQ.go ?_
  refine K.GC.seq ?_
  refine K.GC.region ?_
  refine K.GL.det (K.e_assign rfl) rfl ?_
  refine K.GL.nil ?_
  refine K.GQ.go ?_
  refine K.GC.seq ?_
  refine K.GC.seq ?_
  refine K.GC.region ?_
  refine K.GL.det (K.e_assign rfl) rfl ?_
  refine K.GL.nil ?_
  refine K.GQ.go ?_
  refine K.GC.block ?_
  refine K.GC.trow0 28 encIt ?_
  refine K.GC.loopk (α := Nat × Option Addr × Nat) [0, 2, 25] rfl (fun x => [(3, .slice x.2.1 ((gr.l.take x.1).map OE.x).length x.2.2), (4, .int .i64 (x.1 : Int))]) (fun x => [trow x.2.1 x.2.2 28 encIt ((gr.l.take x.1).map OE.x), cl rp 68 [.slice gr.a gr.l.length gr.c], trow gr.a gr.c 33 encOE gr.l, all (gr.l.map svR)]) (fun x => x.1 ≤ gr.l.length) (fun x => (gr.l.length - x.1)) (0, none, 0) (Nat.zero_le _) (by (repeat refine ⟨rfl, ?_⟩); exact trivial) (K.Sub.refl _) (fun x hI => ?_)
  have hxl : ((gr.l.take x.1).map OE.x).length ≤ x.1 := by rw [List.length_map, List.length_take]; omega
  refine K.GC.seq ?_
  refine K.GC.seq ?_
  refine K.GC.region ?_
  refine K.GL.det (K.e_move rfl) rfl ?_
  refine K.GL.det (K.e_move rfl) rfl ?_
  refine K.GL.det (K.e_nilCheck rfl) rfl ?_
  first | refine K.GL.det (K.e_fa fo68_0 rfl) rfl ?_ | refine K.GL.det (K.e_fieldAddr fo68_0 rfl) rfl ?_
  refine K.GL.det (K.e_load Try.isAgg53 rfl rfl) rfl ?_
  refine K.GL.det (K.e_len Try.underlying53 rfl) rfl ?_
  first | refine K.GL.det ((K.e_lt rfl rfl).yes (by first | omega | assumption | decide +kernel)) rfl ?_ | refine K.GL.det ((K.e_lt rfl rfl).no (by first | omega | assumption | decide +kernel)) rfl ?_ | refine K.GL.det (K.e_lt rfl rfl) rfl ?_
  refine K.GL.nil ?_
  refine K.GQ.go ?_
  refine K.GC.condB rfl (fun h1 => ?_) (fun h1 => ?_)
  · first
    | exact absurd h1 (by decide)
    | try replace h1 := of_decide_eq_true h1
      refine K.GC.skip ?_
      refine K.GQ.go ?_
      refine K.GC.seq ?_
      refine K.GC.block ?_
      obtain ⟨q, hq⟩ : ∃ q, gr.l[x.1]? = some q := get_ex (by omega)
      refine K.GC.region ?_
      refine K.GL.det (K.e_move rfl) rfl ?_
      refine K.GL.det (K.e_move rfl) rfl ?_
      refine K.GL.det (K.e_nilCheck rfl) rfl ?_
      first | refine K.GL.det (K.e_fa fo68_0 rfl) rfl ?_ | refine K.GL.det (K.e_fieldAddr fo68_0 rfl) rfl ?_
      refine K.GL.det (K.e_load Try.isAgg53 rfl rfl) rfl ?_
      refine K.GL.det (K.e_move rfl) rfl ?_
      first | refine K.GL.ixK sl53 rfl rfl rfl rfl (by assumption) rfl ?_ | refine K.GL.ix sl53 rfl rfl rfl rfl (by omega) rfl (fun q20 hq20 => ?_) | refine K.GL.ixI sl53 rfl rfl rfl rfl (by omega) (by omega) rfl (fun q20 hq20 => ?_) | refine K.GL.det (K.e_indexAddrS sl53 rfl rfl (by assumption) (by omega) (by omega)) rfl ?_ | refine K.GL.det (K.e_indexAddr sl53 rfl rfl (by omega) (by omega)) rfl ?_
      first | refine K.GL.det (K.e_fa fo33_0 rfl) rfl ?_ | refine K.GL.det (K.e_fieldAddr fo33_0 rfl) rfl ?_
      refine K.GL.det (K.e_ldAF (l := gr.l) (e := encOE) (o := 0) Try.isAgg28 Try.sizeOf28 rfl rfl hq rfl) rfl ?_
      refine K.GL.buildT encIt [q.x] mk56 rfl rfl rfl rfl rfl (fun b23 => ?_)
      first | refine K.GL.appendT mk56 rfl rfl rfl rfl rfl (by first | omega | (simp only [List.length_cons, List.length_nil, List.length_append]; omega)) (by first | omega | (simp only [List.length_cons, List.length_nil, List.length_append]; omega)) rfl (fun a24 c24 => ?_) | (refine K.GL.trow0 28 encIt ?_; refine K.GL.appendT mk56 rfl rfl rfl rfl rfl (by first | omega | (simp only [List.length_cons, List.length_nil, List.length_append]; omega)) (by first | omega | (simp only [List.length_cons, List.length_nil, List.length_append]; omega)) rfl (fun a24 c24 => ?_))
      refine K.GL.det (K.e_assign rfl) rfl ?_
      refine K.GL.nil ?_
      refine K.GQ.block_normal ?_
      refine K.GQ.go ?_
      refine K.GC.region ?_
      refine K.GL.det (K.e_move rfl) rfl ?_
      first | refine K.GL.det (K.e_add rfl rfl ⟨by omega, by omega⟩) rfl ?_ | refine K.GL.det (K.e_addw rfl rfl) rfl ?_
      refine K.GL.det (K.e_assign rfl) rfl ?_
      refine K.GL.nil ?_
      exact K.GQ.round ((x.1 + 1, a24, c24) : Nat × Option Addr × Nat) (by show x.1 + 1 ≤ _; omega) (by simp only; omega) (by simp only [take_next hq]; (repeat refine ⟨rfl, ?_⟩); exact trivial) (by simp only [take_next hq]; exact K.sb)
  · first
    | exact absurd h1 (by decide)
    | try replace h1 := of_decide_eq_false h1
      refine K.GC.exit ?_
      refine K.GQ.then_exit ?_
      refine K.GQ.then_exit ?_
      refine K.GQ.block_hit ?_
      refine K.GQ.go ?_
      refine K.GC.seq ?_
      refine K.GC.region ?_
      refine K.GL.det (K.e_move rfl) rfl ?_
      refine K.GL.det (K.e_assign rfl) rfl ?_
      refine K.GL.nil ?_
      refine K.GQ.go ?_
      refine K.GC.ret ?_
      refine K.GQ.ret1 Try.results36 rfl (fun w hT => ?_)
      have hx2 : x.1 = gr.l.length := by omega
      rw [hx2, List.take_length] at hT
      exact ⟨x.2.1, x.2.2, by rw [hx2, List.take_length], rclose (hT.sub K.sb)⟩
section
variable {ops : Array Oper} {Q : Exit → Act → World → Prop} {N : Nat} {U : Env} {w0 : World} {L0 L F : List Res} {ty : TypeId} {rest : List Oper} {pos : String} {after : Array Edge} {xs : List Operand} {tys : Array TypeId} {dT : Tmp}
theorem gl_ritems_con {rp : Nat} {gr : RI}  {F1 : List Res}(hf : ∀ args w, (callFunc 36 args).run Try.prog w = .ok (.enter 36 args) w) (hx : opvs U xs = some [.pointer (some ⟨rp, 0, none⟩)]) [p1 : PkI L rp gr F1] (hz : gr.l.length ≤ 9000) (hd : Nat.ble (dT + 1) N = true)
    (hr : ∀ (a' : Option Addr) (c' : Nat), GL Try.prog ops Q rest N ((dT, .slice a' gr.xs.length c') :: U) w0 L0 (trow a' c' 28 encIt gr.xs :: RefI rp gr :: F1)) : GL Try.prog ops Q (⟨some dT, .call ⟨.value (.func 36), xs.toArray, tys⟩, ty, pos, after, Option.none⟩ :: rest) N U w0 L0 L :=
  GL.callM (α := (Option Addr) × (Nat)) (l := [RefI rp gr]) (Pv := fun y v => v = .slice y.1 gr.xs.length y.2) (l' := fun y => [trow y.1 y.2 28 encIt gr.xs, RefI rp gr]) hf hx (p1.out)
    (fun w hT => by
      have hT1 : Tr w0 L0 w ([RefI rp gr] ++ F1) := hT.sub (p1.out); have hd0 := Disj.left hT1.disj; have ho0 := fun r hr => hT1.ok r (List.mem_append_left _ hr); exact (ritems_con hz hd0 ho0).mono fun e w' ⟨a', c', h1, h2⟩ => ⟨(a', c'), _, h1, rfl, h2⟩) hd fun y v hv => by subst hv; exact hr y.1 y.2 
end
/- turntable/turntableref14.ahead -/
set_option maxHeartbeats 1000000 in
set_option maxRecDepth 100000 in
theorem rahead_con {p q : OE} {w : World} :
    Calls Try.prog 46 #[.agg (OE.enc p).toArray, .agg (OE.enc q).toArray] w fun e w' => e = .returned (.bool (decide (aheadP p.x q.x))) ∧ Tr w [] w' [] := by
  refine K.enter0 (args := [_, _]) Try.func46 rfl Try.ntmps46 rfl ?_
  refine K.GC.seq ?_
  refine K.GC.region ?_
  refine K.GL.box rfl rfl rfl (fun b2 => ?_)
  refine K.GL.box rfl rfl rfl (fun b3 => ?_)
  refine K.GL.det (K.e_assign rfl) rfl ?_
  refine K.GL.nil ?_
  refine K.GQ.go ?_
  refine K.GC.seq ?_
  refine K.GC.region ?_
  first | refine K.GL.det (K.e_fa fo33_3 rfl) rfl ?_ | refine K.GL.det (K.e_fieldAddr fo33_3 rfl) rfl ?_
  refine K.GL.det (K.e_load Try.isAgg3 rfl rfl) rfl ?_
  first | refine K.GL.det (K.e_fa fo33_3 rfl) rfl ?_ | refine K.GL.det (K.e_fieldAddr fo33_3 rfl) rfl ?_
  refine K.GL.det (K.e_load Try.isAgg3 rfl rfl) rfl ?_
  first | refine K.GL.det ((K.e_lt rfl rfl).yes (by first | omega | assumption | decide +kernel)) rfl ?_ | refine K.GL.det ((K.e_lt rfl rfl).no (by first | omega | assumption | decide +kernel)) rfl ?_ | refine K.GL.det (K.e_lt rfl rfl) rfl ?_
  refine K.GL.det (K.e_move rfl) rfl ?_
  first | refine K.GL.splitB 10 rfl (fun h1 => ?_) (fun h1 => ?_) | skip
  all_goals first | exact absurd h1 (by decide) | replace h1 := of_decide_eq_true h1 | replace h1 := of_decide_eq_false h1 | skip
  all_goals
    first | (refine K.GL.want 10 rfl rfl rfl ?_; first | refine K.GL.det (K.e_fa fo33_3 rfl) rfl ?_ | refine K.GL.det (K.e_fieldAddr fo33_3 rfl) rfl ?_) | refine K.GL.skip 10 rfl rfl rfl rfl ?_ | refine K.GL.skipU 10 rfl rfl rfl rfl ?_
    first | (refine K.GL.want 10 rfl rfl rfl ?_; first | refine K.GL.det (K.e_load Try.isAgg3 rfl rfl) rfl ?_) | refine K.GL.skip 10 rfl rfl rfl rfl ?_ | refine K.GL.skipU 10 rfl rfl rfl rfl ?_
    first | (refine K.GL.want 10 rfl rfl rfl ?_; first | refine K.GL.det (K.e_fa fo33_3 rfl) rfl ?_ | refine K.GL.det (K.e_fieldAddr fo33_3 rfl) rfl ?_) | refine K.GL.skip 10 rfl rfl rfl rfl ?_ | refine K.GL.skipU 10 rfl rfl rfl rfl ?_
    first | (refine K.GL.want 10 rfl rfl rfl ?_; first | refine K.GL.det (K.e_load Try.isAgg3 rfl rfl) rfl ?_) | refine K.GL.skip 10 rfl rfl rfl rfl ?_ | refine K.GL.skipU 10 rfl rfl rfl rfl ?_
    first | (refine K.GL.want 10 rfl rfl rfl ?_; first | refine K.GL.det ((K.e_eq rfl rfl).yes (by first | omega | assumption | decide +kernel)) rfl ?_ | refine K.GL.det ((K.e_eq rfl rfl).no (by first | omega | assumption | decide +kernel)) rfl ?_ | refine K.GL.det (K.e_eq rfl rfl) rfl ?_) | refine K.GL.skip 10 rfl rfl rfl rfl ?_ | refine K.GL.skipU 10 rfl rfl rfl rfl ?_
    first | (refine K.GL.want 10 rfl rfl rfl ?_; first | refine K.GL.det (K.e_move rfl) rfl ?_) | refine K.GL.skip 10 rfl rfl rfl rfl ?_ | refine K.GL.skipU 10 rfl rfl rfl rfl ?_
    first | refine K.GL.splitB 16 rfl (fun h2 => ?_) (fun h2 => ?_) | skip
    all_goals first | exact absurd h2 (by decide) | replace h2 := of_decide_eq_true h2 | replace h2 := of_decide_eq_false h2 | skip
    all_goals
      first | (refine K.GL.want 16 rfl rfl rfl ?_; first | refine K.GL.det (K.e_fa fo33_0 rfl) rfl ?_ | refine K.GL.det (K.e_fieldAddr fo33_0 rfl) rfl ?_) | refine K.GL.skip 16 rfl rfl rfl rfl ?_ | refine K.GL.skipU 16 rfl rfl rfl rfl ?_
      first | (refine K.GL.want 16 rfl rfl rfl ?_; first | refine K.GL.det (K.e_fa fo28_0 rfl) rfl ?_ | refine K.GL.det (K.e_fieldAddr fo28_0 rfl) rfl ?_) | refine K.GL.skip 16 rfl rfl rfl rfl ?_ | refine K.GL.skipU 16 rfl rfl rfl rfl ?_
      first | (refine K.GL.want 16 rfl rfl rfl ?_; first | refine K.GL.det (K.e_load Try.isAgg2 rfl rfl) rfl ?_) | refine K.GL.skip 16 rfl rfl rfl rfl ?_ | refine K.GL.skipU 16 rfl rfl rfl rfl ?_
      first | (refine K.GL.want 16 rfl rfl rfl ?_; first | refine K.GL.det (K.e_fa fo33_0 rfl) rfl ?_ | refine K.GL.det (K.e_fieldAddr fo33_0 rfl) rfl ?_) | refine K.GL.skip 16 rfl rfl rfl rfl ?_ | refine K.GL.skipU 16 rfl rfl rfl rfl ?_
      first | (refine K.GL.want 16 rfl rfl rfl ?_; first | refine K.GL.det (K.e_fa fo28_0 rfl) rfl ?_ | refine K.GL.det (K.e_fieldAddr fo28_0 rfl) rfl ?_) | refine K.GL.skip 16 rfl rfl rfl rfl ?_ | refine K.GL.skipU 16 rfl rfl rfl rfl ?_
      first | (refine K.GL.want 16 rfl rfl rfl ?_; first | refine K.GL.det (K.e_load Try.isAgg2 rfl rfl) rfl ?_) | refine K.GL.skip 16 rfl rfl rfl rfl ?_ | refine K.GL.skipU 16 rfl rfl rfl rfl ?_
      first | (refine K.GL.want 16 rfl rfl rfl ?_; first | refine K.GL.det ((K.e_lt rfl rfl).yes (by first | omega | assumption | decide +kernel)) rfl ?_ | refine K.GL.det ((K.e_lt rfl rfl).no (by first | omega | assumption | decide +kernel)) rfl ?_ | refine K.GL.det (K.e_lt rfl rfl) rfl ?_) | refine K.GL.skip 16 rfl rfl rfl rfl ?_ | refine K.GL.skipU 16 rfl rfl rfl rfl ?_
      first | (refine K.GL.want 10 rfl rfl rfl ?_; first | refine K.GL.det (K.e_pick_t rfl rfl) rfl ?_ | refine K.GL.det (K.e_pick_f rfl rfl) rfl ?_) | refine K.GL.skip 10 rfl rfl rfl rfl ?_ | refine K.GL.skipU 10 rfl rfl rfl rfl ?_
      first | refine K.GL.det (K.e_pick_t rfl rfl) rfl ?_ | refine K.GL.det (K.e_pick_f rfl rfl) rfl ?_
      refine K.GL.det (K.e_assign rfl) rfl ?_
      refine K.GL.nil ?_
      refine K.GQ.go ?_
      refine K.GC.ret ?_
      refine K.GQ.ret1 Try.results46 rfl (fun w hT => ?_)
      exact ⟨by simp only [Ending.returned.injEq, Value.bool.injEq, aheadP]; first | (simp_all; done) | grind, hT.nil⟩
section
variable {ops : Array Oper} {Q : Exit → Act → World → Prop} {N : Nat} {U : Env} {w0 : World} {L0 L F : List Res} {ty : TypeId} {rest : List Oper} {pos : String} {after : Array Edge} {xs : List Operand} {tys : Array TypeId} {dT : Tmp}
theorem ev_rahead_con {p q : OE} (hf : ∀ args w, (callFunc 46 args).run Try.prog w = .ok (.enter 46 args) w) (hx : opvs U xs = some [.agg (OE.enc p).toArray, .agg (OE.enc q).toArray]) : Ev Try.prog U w0 L0 L (.call ⟨.value (.func 46), xs.toArray, tys⟩) ty (Is (.bool (decide (aheadP p.x q.x)))) No :=
  K.e_call1 hf hx (fun w hT => by exact rahead_con )
end
/- (*turntable/turntableref14.Index).In -/
set_option maxHeartbeats 4000000 in
set_option maxRecDepth 100000 in
theorem rin_con {rp : Nat} {gr : RI} {k : Int} {w : World} (hz : gr.l.length ≤ 9000) (hn : (gr.xs.map EX.id).Nodup) (hd : Disj [RefI rp gr]) (ho : ∀ r ∈ ([RefI rp gr] : List Res), r.ok w.heap) :
    Calls Try.prog 30 #[.pointer (some ⟨rp, 0, none⟩), .int .i64 k] w fun e w' => ∃ a' : Option Addr, ∃ c' : Nat, e = .returned (.slice a' ((inS gr.xs k gr.l.length).map EX.id).length c') ∧ Tr w [RefI rp gr] w' [trow a' c' 2 (K.encI .i64) ((inS gr.xs k gr.l.length).map EX.id), RefI rp gr] := by
  refine K.enter (args := [_, _]) Try.func30 rfl Try.ntmps30 rfl hd ho ?_
  refine K.GC.opened1 ?_
  refine K.GC.seq ?_
  refine K.GC.region ?_
  refine K.GL.det (K.e_assign rfl) rfl ?_
  refine K.GL.nil ?_
  refine K.GQ.go ?_
  refine K.GC.seq ?_
  refine K.GC.region ?_
  refine K.GL.det (K.e_assign rfl) rfl ?_
  refine K.GL.nil ?_
  refine K.GQ.go ?_
  refine K.GC.seq ?_
  refine K.GC.seq ?_
  refine K.GC.region ?_
  refine K.GL.det (K.e_assign rfl) rfl ?_
  refine K.GL.nil ?_
  refine K.GQ.go ?_
  refine K.GC.block ?_
  refine K.GC.trow0 33 encOE ?_
  refine K.GC.loopk (α := Nat × List OE × Option Addr × Nat) [0, 1, 4, 8, 9, 68, 69, 70, 71, 72, 73, 74, 75, 76, 77, 78, 79, 80, 81, 82, 83] rfl (fun x => [(5, .slice x.2.2.1 x.2.1.length x.2.2.2), (6, .int .i64 (x.1 : Int))]) (fun x => [trow x.2.2.1 x.2.2.2 33 encOE x.2.1, cl rp 68 [.slice gr.a gr.l.length gr.c], trow gr.a gr.c 33 encOE gr.l, all (gr.l.map svR)]) (fun x => x.1 ≤ gr.l.length ∧ x.2.1.map OE.x = inS gr.xs k x.1) (fun x => (gr.l.length - x.1)) (0, [], none, 0) ⟨Nat.zero_le _, (inS_zero _ _).symm⟩ (by first | ((repeat refine ⟨rfl, ?_⟩); exact trivial) | (simp only [List.take_zero, List.map_nil, List.flatMap_nil, List.append_nil]; (repeat refine ⟨rfl, ?_⟩); exact trivial)) (K.Sub.refl _) (fun x hI => ?_)
  have hx1 := hI.1
  have hxl : x.2.1.length ≤ x.1 := by
    have h := congrArg List.length hI.2
    rw [List.length_map] at h
    have := inS_len gr.xs k x.1
    omega
  have hacc := hI.2
  refine K.GC.seq ?_
  refine K.GC.seq ?_
  refine K.GC.region ?_
  refine K.GL.det (K.e_move rfl) rfl ?_
  refine K.GL.det (K.e_move rfl) rfl ?_
  refine K.GL.det (K.e_nilCheck rfl) rfl ?_
  first | refine K.GL.det (K.e_fa fo68_0 rfl) rfl ?_ | refine K.GL.det (K.e_fieldAddr fo68_0 rfl) rfl ?_
  refine K.GL.det (K.e_load Try.isAgg53 rfl rfl) rfl ?_
  refine K.GL.det (K.e_len Try.underlying53 rfl) rfl ?_
  first | refine K.GL.det ((K.e_lt rfl rfl).yes (by first | omega | assumption | decide +kernel)) rfl ?_ | refine K.GL.det ((K.e_lt rfl rfl).no (by first | omega | assumption | decide +kernel)) rfl ?_ | refine K.GL.det (K.e_lt rfl rfl) rfl ?_
  refine K.GL.nil ?_
  refine K.GQ.go ?_
  refine K.GC.condB rfl (fun h1 => ?_) (fun h1 => ?_)
  · first
    | exact absurd h1 (by decide)
    | try replace h1 := of_decide_eq_true h1
      refine K.GC.skip ?_
      refine K.GQ.go ?_
      refine K.GC.seq ?_
      refine K.GC.block ?_
      refine K.GC.seq ?_
      refine K.GC.seq ?_
      obtain ⟨q, hq⟩ : ∃ q, gr.l[x.1]? = some q := get_ex (by omega)
      refine K.GC.region ?_
      refine K.GL.det (K.e_move rfl) rfl ?_
      refine K.GL.det (K.e_nilCheck rfl) rfl ?_
      first | refine K.GL.det (K.e_fa fo68_0 rfl) rfl ?_ | refine K.GL.det (K.e_fieldAddr fo68_0 rfl) rfl ?_
      refine K.GL.det (K.e_load Try.isAgg53 rfl rfl) rfl ?_
      refine K.GL.det (K.e_move rfl) rfl ?_
      first | refine K.GL.ixK sl53 rfl rfl rfl rfl (by assumption) rfl ?_ | refine K.GL.ix sl53 rfl rfl rfl rfl (by omega) rfl (fun q24 hq24 => ?_) | refine K.GL.ixI sl53 rfl rfl rfl rfl (by omega) (by omega) rfl (fun q24 hq24 => ?_) | refine K.GL.det (K.e_indexAddrS sl53 rfl rfl (by assumption) (by omega) (by omega)) rfl ?_ | refine K.GL.det (K.e_indexAddr sl53 rfl rfl (by omega) (by omega)) rfl ?_
      first | refine K.GL.det (K.e_fa fo33_2 rfl) rfl ?_ | refine K.GL.det (K.e_fieldAddr fo33_2 rfl) rfl ?_
      refine K.GL.det (K.e_ldF (l := gr.l) (e := encOE) (o := 10) Try.isAgg2 rfl rfl hq rfl) rfl ?_
      refine K.GL.det (K.e_move rfl) rfl ?_
      first | refine K.GL.det ((K.e_ne rfl rfl).yes (by first | omega | assumption | decide +kernel)) rfl ?_ | refine K.GL.det ((K.e_ne rfl rfl).no (by first | omega | assumption | decide +kernel)) rfl ?_ | refine K.GL.det (K.e_ne rfl rfl) rfl ?_
      refine K.GL.nil ?_
      refine K.GQ.go ?_
      refine K.GC.condB rfl (fun h2 => ?_) (fun h2 => ?_)
      · first
        | exact absurd h2 (by decide)
        | try replace h2 := of_decide_eq_true h2
          refine K.GC.exit ?_
          refine K.GQ.then_exit ?_
          refine K.GQ.block_hit ?_
          refine K.GQ.go ?_
          refine K.GC.region ?_
          refine K.GL.det (K.e_move rfl) rfl ?_
          first | refine K.GL.det (K.e_add rfl rfl ⟨by omega, by omega⟩) rfl ?_ | refine K.GL.det (K.e_addw rfl rfl) rfl ?_
          refine K.GL.det (K.e_assign rfl) rfl ?_
          refine K.GL.nil ?_
          first
            | exact K.GQ.round ((x.1 + 1, x.2.1, x.2.2.1, x.2.2.2) : Nat × List OE × Option Addr × Nat) ⟨by show x.1 + 1 ≤ _; omega, in_skip (l := gr.xs) (x := q.x) (map_at hq) (by assumption) hacc⟩ (by simp only; omega) (by (repeat refine ⟨rfl, ?_⟩); exact trivial) (by first | exact K.sb | (dsimp only; exact K.sb))
            | (have hlen : x.2.1.length = (x.2.1.map OE.x).length := by rw [List.length_map]
               have hin := in_next (k := kk) hn (map_at hq) (by first | assumption | exact Classical.not_not.1 (by assumption)) hacc (by omega) (by first | exact Or.inl (by assumption) | exact Or.inr ⟨y.x, map_at hy2, by assumption⟩) (by rcases hk4 with h | ⟨z, hz1, hz2⟩; exact Or.inl (by omega); exact Or.inr ⟨z.x, map_at hz1, hz2⟩)
               rw [← ins_map] at hin
               simp only [ins_eq]
               exact K.GQ.round ((x.1 + 1, x.2.1.take kk ++ q :: x.2.1.drop kk, a67, c67) : Nat × List OE × Option Addr × Nat) ⟨by show x.1 + 1 ≤ _; omega, hin⟩ (by simp only; omega) (by (repeat refine ⟨rfl, ?_⟩); exact trivial) (by first | exact K.sb | (dsimp only; exact K.sb)))
      · first
        | exact absurd h2 (by decide)
        | try replace h2 := of_decide_eq_false h2
          refine K.GC.skip ?_
          refine K.GQ.go ?_
          refine K.GC.seq ?_
          refine K.GC.region ?_
          refine K.GL.det (K.e_move rfl) rfl ?_
          refine K.GL.det (K.e_len Try.underlying53 rfl) rfl ?_
          refine K.GL.det (K.e_assign rfl) rfl ?_
          refine K.GL.nil ?_
          refine K.GQ.go ?_
          refine K.GC.seq ?_
          refine K.GC.block ?_
          refine K.GC.loopk (α := Nat) [0, 1, 4, 5, 6, 8, 9, 10, 11, 12, 13, 14, 15, 16, 17, 18, 19, 20, 21, 22, 23, 24, 25, 26, 27, 28, 29, 30, 50, 51, 52, 53, 54, 55, 56, 57, 58, 59, 60, 61, 62, 63, 64, 65, 66, 67, 68, 69, 70, 71, 72, 73, 74, 75, 76, 77, 78, 79, 80, 81, 82, 83] rfl (fun kk => [(7, .int .i64 (kk : Int))]) (fun kk => [trow x.2.2.1 x.2.2.2 33 encOE x.2.1, cl rp 68 [.slice gr.a gr.l.length gr.c], trow gr.a gr.c 33 encOE gr.l, all (gr.l.map svR)]) (fun kk => kk ≤ x.2.1.length ∧ (x.2.1.length ≤ kk ∨ ∃ y, x.2.1[kk]? = some y ∧ aheadP q.x y.x)) (fun kk => kk) x.2.1.length ⟨Nat.le_refl _, Or.inl (Nat.le_refl _)⟩ (by first | ((repeat refine ⟨rfl, ?_⟩); exact trivial) | (simp only [List.take_zero, List.map_nil, List.flatMap_nil, List.append_nil]; (repeat refine ⟨rfl, ?_⟩); exact trivial)) (K.Sub.refl _) (fun kk hI => ?_)
          have hkk := hI.1
          have hk4 := hI.2
          refine K.GC.seq ?_
          refine K.GC.seq ?_
          rcases Nat.eq_zero_or_pos kk with hk0 | hk0
          all_goals first | (have hk2 : kk ≠ 0 := (by omega); obtain ⟨y, hy2⟩ : ∃ q, x.2.1[kk - 1]? = some q := (get_ex (by omega))) | skip
          all_goals
            refine K.D.GC.drawn0 17 [[], [0], [0, 1], [0, 1, 2], [0, 1, 2, 3], [0, 1, 2, 3, 4], [0, 1, 2, 3, 4, 5], [0, 1, 2], [0, 1, 2, 3, 4, 5, 6, 7], [0, 1, 2, 3, 4, 5, 6, 7, 8], [0, 1, 2], [0, 1, 2], [0, 1, 2, 11], [0, 1, 2, 10, 11, 12], [0, 1, 2, 10, 11, 12, 13], [0, 1, 2, 3, 4, 5, 6, 7, 8, 9, 10, 11, 12, 13, 14], [0, 1, 2, 3, 4, 5, 6, 7, 8, 9, 10, 11, 12, 13, 14, 15]] [[], [0], [1], [2], [2, 3], [2, 4], [2, 5], [2], [2, 6, 7], [2, 8], [2], [2], [2, 11], [2, 10, 12], [2, 13], [2, 9, 14], [2, 15]] [[], [], [], [], [], [], [], [], [], [], [], [], [], [], [], [], []] [[], [], [], [], [], [], [], [], [], [], [], [], [], [], [], [], []] [] [0, 1, 4, 5, 6, 7, 8, 9, 10, 11, 12, 13, 14, 15, 16, 17, 18, 19, 20, 21, 22, 23, 24, 25, 26, 27, 28, 29, 30, 48, 49, 50, 51, 52, 53, 54, 55, 56, 57, 58, 59, 60, 61, 62, 63, 64, 65, 66, 67, 68, 69, 70, 71, 72, 73, 74, 75, 76, 77, 78, 79, 80, 81, 82, 83] (by kernel_rfl) (by kernel_rfl) (by kernel_rfl) rfl ?_
            refine K.D.DW.det (b := []) (u := []) rfl rfl rfl (fun vs hf => K.e_move rfl) ?_
            first | refine K.D.DW.det (b := [0]) (u := []) rfl rfl rfl (fun vs hf => (K.e_gt rfl rfl).yes (by omega)) ?_ | refine K.D.DW.det (b := [0]) (u := []) rfl rfl rfl (fun vs hf => (K.e_gt rfl rfl).no (by omega)) ?_
            refine K.D.DW.det (b := [1]) (u := []) rfl rfl rfl (fun vs hf => K.e_move rfl) ?_
            first | (refine K.D.DW.want (b := [2]) rfl (fun _ => rfl) ?_; first | refine K.D.DW.det (b := [2]) (u := []) rfl rfl rfl (fun vs hf => K.e_move rfl) ?_) | refine K.D.DW.skip (b := [2]) rfl rfl (fun _ => rfl) ?_
            first | (refine K.D.DW.want (b := [2, 3]) rfl (fun _ => rfl) ?_; first | refine K.D.DW.det (b := [2, 3]) (u := []) rfl rfl rfl (fun vs hf => K.e_nilCheck rfl) ?_) | refine K.D.DW.skip (b := [2, 3]) rfl rfl (fun _ => rfl) ?_
            first | (refine K.D.DW.want (b := [2, 4]) rfl (fun _ => rfl) ?_; first | refine K.D.DW.det (b := [2, 4]) (u := []) rfl rfl rfl (fun vs hf => K.e_fa fo68_0 rfl) ?_ | refine K.D.DW.det (b := [2, 4]) (u := []) rfl rfl rfl (fun vs hf => K.e_fieldAddr fo68_0 rfl) ?_) | refine K.D.DW.skip (b := [2, 4]) rfl rfl (fun _ => rfl) ?_
            first | (refine K.D.DW.want (b := [2, 5]) rfl (fun _ => rfl) ?_; first | refine K.D.DW.det (b := [2, 5]) (u := []) rfl rfl rfl (fun vs hf => K.e_load Try.isAgg53 rfl rfl) ?_) | refine K.D.DW.skip (b := [2, 5]) rfl rfl (fun _ => rfl) ?_
            first | (refine K.D.DW.want (b := [2]) rfl (fun _ => rfl) ?_; first | refine K.D.DW.det (b := [2]) (u := []) rfl rfl rfl (fun vs hf => K.e_move rfl) ?_) | refine K.D.DW.skip (b := [2]) rfl rfl (fun _ => rfl) ?_
            first | (refine K.D.DW.want (b := [2, 6, 7]) rfl (fun _ => rfl) ?_; first | refine K.D.DW.det (b := [2, 6, 7]) (u := []) rfl rfl rfl (fun vs hf => K.e_ixN (l := gr.l) (e := encOE) sl53 rfl rfl rfl rfl (by omega)) ?_) | refine K.D.DW.skip (b := [2, 6, 7]) rfl rfl (fun _ => rfl) ?_
            first | (refine K.D.DW.want (b := [2, 8]) rfl (fun _ => rfl) ?_; first | refine K.D.DW.det (b := [2, 8]) (u := []) rfl rfl rfl (fun vs hf => K.e_ldA (l := gr.l) (e := encOE) Try.isAgg33 Try.sizeOf33 rfl rfl hq) ?_) | refine K.D.DW.skip (b := [2, 8]) rfl rfl (fun _ => rfl) ?_
            first | (refine K.D.DW.want (b := [2]) rfl (fun _ => rfl) ?_; first | refine K.D.DW.det (b := [2]) (u := []) rfl rfl rfl (fun vs hf => K.e_move rfl) ?_) | refine K.D.DW.skip (b := [2]) rfl rfl (fun _ => rfl) ?_
            first | (refine K.D.DW.want (b := [2]) rfl (fun _ => rfl) ?_; first | refine K.D.DW.det (b := [2]) (u := []) rfl rfl rfl (fun vs hf => K.e_move rfl) ?_) | refine K.D.DW.skip (b := [2]) rfl rfl (fun _ => rfl) ?_
            first | (refine K.D.DW.want (b := [2, 11]) rfl (fun _ => rfl) ?_; first | refine K.D.DW.det (b := [2, 11]) (u := []) rfl rfl rfl (fun vs hf => (K.e_sub rfl rfl ⟨by omega, by omega⟩).cast_int (b := ((kk - 1 : Nat) : Int)) (by omega)) ?_) | refine K.D.DW.skip (b := [2, 11]) rfl rfl (fun _ => rfl) ?_
            first | (refine K.D.DW.want (b := [2, 10, 12]) rfl (fun _ => rfl) ?_; first | refine K.D.DW.det (b := [2, 10, 12]) (u := []) rfl rfl rfl (fun vs hf => K.e_ixN (l := x.2.1) (e := encOE) sl53 rfl rfl rfl rfl (by omega)) ?_) | refine K.D.DW.skip (b := [2, 10, 12]) rfl rfl (fun _ => rfl) ?_
            first | (refine K.D.DW.want (b := [2, 13]) rfl (fun _ => rfl) ?_; first | refine K.D.DW.det (b := [2, 13]) (u := []) rfl rfl rfl (fun vs hf => K.e_ldA (l := x.2.1) (e := encOE) Try.isAgg33 Try.sizeOf33 rfl rfl hy2) ?_) | refine K.D.DW.skip (b := [2, 13]) rfl rfl (fun _ => rfl) ?_
            first | (refine K.D.DW.want (b := [2, 9, 14]) rfl (fun _ => rfl) ?_; first | refine K.D.DW.det (b := [2, 9, 14]) (u := []) rfl rfl rfl (fun vs hf => (ev_rahead_con (p := q) (q := y) Try.call46 rfl)) ?_) | refine K.D.DW.skip (b := [2, 9, 14]) rfl rfl (fun _ => rfl) ?_
            first | refine K.D.DW.det (b := [2, 15]) (u := []) rfl rfl rfl (fun vs hf => K.e_pick_t rfl rfl) ?_ | refine K.D.DW.det (b := [2, 15]) (u := []) rfl rfl rfl (fun vs hf => K.e_pick_f rfl rfl) ?_
            refine K.D.DW.fin (fun vs hf => ?_)
            refine K.GL.keep [0, 1, 4, 5, 6, 7, 8, 9, 10, 11, 12, 13, 14, 15, 16, 17, 18, 19, 20, 21, 22, 23, 24, 25, 26, 27, 28, 29, 30, 31, 32, 33, 34, 35, 36, 37, 38, 39, 40, 41, 42, 43, 44, 45, 46, 47, 48, 49, 50, 51, 52, 53, 54, 55, 56, 57, 58, 59, 60, 61, 62, 63, 64, 65, 66, 67, 68, 69, 70, 71, 72, 73, 74, 75, 76, 77, 78, 79, 80, 81, 82, 83] rfl ?_
            refine K.D.GL.res0 rfl ?_
            clear hf
            try clear vs
            refine K.GL.nil ?_
            refine K.GQ.go ?_
            refine K.GC.condB rfl (fun h3 => ?_) (fun h3 => ?_)
            · first
              | exact absurd h3 (by decide)
              | try replace h3 := of_decide_eq_true h3
                refine K.GC.skip ?_
                refine K.GQ.go ?_
                refine K.GC.block ?_
                refine K.GC.region ?_
                refine K.GL.det (K.e_move rfl) rfl ?_
                refine K.GL.det ((K.e_sub rfl rfl ⟨by omega, by omega⟩).cast_int (b := ((kk - 1 : Nat) : Int)) (by omega)) rfl ?_
                refine K.GL.det (K.e_assign rfl) rfl ?_
                refine K.GL.nil ?_
                refine K.GQ.block_normal ?_
                exact K.GQ.round (kk - 1) ⟨by omega, Or.inr ⟨y, hy2, by assumption⟩⟩ (by omega) (by (repeat refine ⟨rfl, ?_⟩); exact trivial) (K.Sub.refl _)
            · first
              | exact absurd h3 (by decide)
              | try replace h3 := of_decide_eq_false h3
                refine K.GC.exit ?_
                refine K.GQ.then_exit ?_
                refine K.GQ.then_exit ?_
                refine K.GQ.block_hit ?_
                refine K.GQ.go ?_
                refine K.GC.capT x.2.2.1 (fun hcap => ?_)
                have htl : (x.2.1.take kk).length = kk := by rw [List.length_take]; omega
                have hdl : (x.2.1.drop kk).length = x.2.1.length - kk := List.length_drop
                refine K.D.GC.drawn0 18 [[], [], [], [1, 2], [0, 1, 2, 3], [], [5], [5, 6], [5, 6, 7], [], [5, 6, 7, 8, 9], [5, 6, 7, 8, 9, 10], [5, 6, 7, 8, 9, 10, 11], [0, 1, 2, 3, 4, 5, 6, 7, 8, 9, 10, 11, 12], [], [], [14, 15], [0, 1, 2, 3, 4, 5, 6, 7, 8, 9, 10, 11, 12, 13, 14, 15, 16], [0, 1, 2, 3, 4, 5, 6, 7, 8, 9, 10, 11, 12, 13, 14, 15, 16, 17]] [[], [], [], [1, 2], [0, 3], [], [5], [6], [7], [], [8, 9], [10], [11], [4, 12], [], [], [14, 15], [13, 16]] [[], [], [], [], [0], [], [], [], [], [], [], [], [], [4, 12], [], [], [], [13]] [[], [], [], [], [0], [], [], [], [], [], [], [], [], [4], [], [], [], [13]] [17] [0, 1, 4, 5, 6, 7, 8, 9, 10, 11, 12, 13, 14, 15, 16, 17, 18, 19, 20, 21, 22, 23, 24, 25, 26, 27, 28, 29, 30, 31, 32, 33, 34, 35, 36, 37, 38, 39, 40, 41, 42, 43, 44, 45, 46, 47, 48, 49, 68, 69, 70, 71, 72, 73, 74, 75, 76, 77, 78, 79, 80, 81, 82, 83] (by kernel_rfl) (by kernel_rfl) (by kernel_rfl) rfl ?_
                refine K.D.DW.ev0 (b := []) (u := []) (a := []) rfl rfl rfl (fun vs hf => show K.D.EvM _ _ _ _ (_) [] _ _ _ _ _ from K.D.em_build encOE [] mk53 rfl rfl rfl rfl) ?_
                refine K.D.DW.det (b := []) (u := []) rfl rfl rfl (fun vs hf => K.e_move rfl) ?_
                refine K.D.DW.det (b := []) (u := []) rfl rfl rfl (fun vs hf => K.e_move rfl) ?_
                refine K.D.DW.ev0 (b := [1, 2]) (u := []) (a := []) rfl rfl rfl (fun vs hf => show K.D.EvM _ _ _ _ (_) [] _ _ _ _ _ from K.D.em_partH (j := kk) sl53 rfl rfl rfl rfl (by omega) (by omega)) ?_
                refine K.D.DW.ev0 (b := [0, 3]) (u := [0]) (a := [0]) rfl rfl rfl (fun vs ⟨hf50, ⟨hf53, hg53⟩, _⟩ => show K.D.EvM _ _ _ _ (_ :: _) [_] _ _ _ _ _ from K.D.em_append mk53 rfl rfl rfl rfl rfl (by first | omega | (simp only [List.length_cons, List.length_nil, List.length_append]; omega)) (by first | omega | (simp only [List.length_cons, List.length_nil, List.length_append]; omega))) ?_
                refine K.D.DW.det (b := []) (u := []) rfl rfl rfl (fun vs hf => K.e_move rfl) ?_
                refine K.D.DW.det (b := [5]) (u := []) rfl rfl rfl (fun vs hf => K.e_nilCheck rfl) ?_
                first | refine K.D.DW.det (b := [6]) (u := []) rfl rfl rfl (fun vs hf => K.e_fa fo68_0 rfl) ?_ | refine K.D.DW.det (b := [6]) (u := []) rfl rfl rfl (fun vs hf => K.e_fieldAddr fo68_0 rfl) ?_
                refine K.D.DW.det (b := [7]) (u := []) rfl rfl rfl (fun vs hf => K.e_load Try.isAgg53 rfl rfl) ?_
                refine K.D.DW.det (b := []) (u := []) rfl rfl rfl (fun vs hf => K.e_move rfl) ?_
                refine K.D.DW.det (b := [8, 9]) (u := []) rfl rfl rfl (fun vs hf => K.e_ixN (l := gr.l) (e := encOE) sl53 rfl rfl rfl rfl (by omega)) ?_
                refine K.D.DW.det (b := [10]) (u := []) rfl rfl rfl (fun vs hf => K.e_ldA (l := gr.l) (e := encOE) Try.isAgg33 Try.sizeOf33 rfl rfl hq) ?_
                refine K.D.DW.ev0 (b := [11]) (u := []) (a := []) rfl rfl rfl (fun vs hf => show K.D.EvM _ _ _ _ (_) [] _ _ _ _ _ from K.D.em_build encOE [q] mk53 rfl rfl rfl rfl) ?_
                refine K.D.DW.ev0 (b := [4, 12]) (u := [4, 12]) (a := [4]) rfl rfl rfl (fun vs ⟨hf54, hf62, _⟩ => show K.D.EvM _ _ _ _ (_ :: _ :: _) [_] _ _ _ _ _ from K.D.em_append mk53 rfl rfl rfl rfl rfl (by first | omega | (simp only [List.length_cons, List.length_nil, List.length_append]; omega)) (by first | omega | (simp only [List.length_cons, List.length_nil, List.length_append]; omega))) ?_
                refine K.D.DW.det (b := []) (u := []) rfl rfl rfl (fun vs hf => K.e_move rfl) ?_
                refine K.D.DW.det (b := []) (u := []) rfl rfl rfl (fun vs hf => K.e_move rfl) ?_
                refine K.D.DW.ev0 (b := [14, 15]) (u := []) (a := []) rfl rfl rfl (fun vs hf => show K.D.EvM _ _ _ _ (_) [] _ _ _ _ _ from K.D.em_partL (j := kk) sl53 rfl rfl rfl rfl (by omega) (by omega)) ?_
                refine K.D.DW.ev0 (b := [13, 16]) (u := [13]) (a := [13]) rfl rfl rfl (fun vs ⟨hf63, ⟨hf66, hg66⟩, _⟩ => show K.D.EvM _ _ _ _ (_ :: _) [_] _ _ _ _ _ from K.D.em_append mk53 rfl rfl rfl rfl rfl (by first | omega | (simp only [List.length_cons, List.length_nil, List.length_append]; omega)) (by first | omega | (simp only [List.length_cons, List.length_nil, List.length_append]; omega))) ?_
                refine K.D.DW.fin (fun vs hf => ?_)
                refine K.GL.keep [0, 1, 4, 5, 6, 7, 8, 9, 10, 11, 12, 13, 14, 15, 16, 17, 18, 19, 20, 21, 22, 23, 24, 25, 26, 27, 28, 29, 30, 31, 32, 33, 34, 35, 36, 37, 38, 39, 40, 41, 42, 43, 44, 45, 46, 47, 48, 49, 50, 51, 52, 53, 54, 55, 56, 57, 58, 59, 60, 61, 62, 63, 64, 65, 66, 67, 68, 69, 70, 71, 72, 73, 74, 75, 76, 77, 78, 79, 80, 81, 82, 83] rfl ?_
                refine K.D.GL.res1 rfl ?_
                try dsimp only
                clear hf
                generalize (vs 17 0).1 = a67, (vs 17 0).2 = c67
                try clear vs
                refine K.GL.det (K.e_assign rfl) rfl ?_
                refine K.GL.nil ?_
                refine K.GQ.block_normal ?_
                refine K.GQ.go ?_
                refine K.GC.region ?_
                refine K.GL.det (K.e_move rfl) rfl ?_
                first | refine K.GL.det (K.e_add rfl rfl ⟨by omega, by omega⟩) rfl ?_ | refine K.GL.det (K.e_addw rfl rfl) rfl ?_
                refine K.GL.det (K.e_assign rfl) rfl ?_
                refine K.GL.nil ?_
                first
                  | exact K.GQ.round ((x.1 + 1, x.2.1, x.2.2.1, x.2.2.2) : Nat × List OE × Option Addr × Nat) ⟨by show x.1 + 1 ≤ _; omega, in_skip (l := gr.xs) (x := q.x) (map_at hq) (by assumption) hacc⟩ (by simp only; omega) (by (repeat refine ⟨rfl, ?_⟩); exact trivial) (by first | exact K.sb | (dsimp only; exact K.sb))
                  | (have hlen : x.2.1.length = (x.2.1.map OE.x).length := by rw [List.length_map]
                     have hin := in_next (k := kk) hn (map_at hq) (by first | assumption | exact Classical.not_not.1 (by assumption)) hacc (by omega) (by first | exact Or.inl (by assumption) | exact Or.inr ⟨y.x, map_at hy2, by assumption⟩) (by rcases hk4 with h | ⟨z, hz1, hz2⟩; exact Or.inl (by omega); exact Or.inr ⟨z.x, map_at hz1, hz2⟩)
                     rw [← ins_map] at hin
                     simp only [ins_eq]
                     exact K.GQ.round ((x.1 + 1, x.2.1.take kk ++ q :: x.2.1.drop kk, a67, c67) : Nat × List OE × Option Addr × Nat) ⟨by show x.1 + 1 ≤ _; omega, hin⟩ (by simp only; omega) (by (repeat refine ⟨rfl, ?_⟩); exact trivial) (by first | exact K.sb | (dsimp only; exact K.sb)))
  · first
    | exact absurd h1 (by decide)
    | try replace h1 := of_decide_eq_false h1
      refine K.GC.exit ?_
      refine K.GQ.then_exit ?_
      refine K.GQ.then_exit ?_
      refine K.GQ.block_hit ?_
      refine K.GQ.go ?_
      refine K.GC.seq ?_
      have hx2 : x.1 = gr.l.length := by omega
      have hI2 := hacc
      refine K.GC.region ?_
      refine K.GL.det (K.e_assign rfl) rfl ?_
      refine K.GL.nil ?_
      refine K.GQ.go ?_
      refine K.GC.seq ?_
      refine K.GC.seq ?_
      refine K.GC.region ?_
      refine K.GL.det (K.e_assign rfl) rfl ?_
      refine K.GL.nil ?_
      refine K.GQ.go ?_
      refine K.GC.block ?_
      refine K.GC.trow0 2 (K.encI .i64) ?_
      refine K.GC.loopk (α := Nat × Option Addr × Nat) [4, 5, 83] rfl (fun y => [(8, .slice y.2.1 ((x.2.1.take y.1).map (fun o => o.x.id)).length y.2.2), (9, .int .i64 (y.1 : Int))]) (fun y => [trow y.2.1 y.2.2 2 (K.encI .i64) ((x.2.1.take y.1).map (fun o => o.x.id)), trow x.2.2.1 x.2.2.2 33 encOE x.2.1, cl rp 68 [.slice gr.a gr.l.length gr.c], trow gr.a gr.c 33 encOE gr.l, all (gr.l.map svR)]) (fun y => y.1 ≤ x.2.1.length) (fun y => (x.2.1.length - y.1)) (0, none, 0) (Nat.zero_le _) (by first | ((repeat refine ⟨rfl, ?_⟩); exact trivial) | (simp only [List.take_zero, List.map_nil, List.flatMap_nil, List.append_nil]; (repeat refine ⟨rfl, ?_⟩); exact trivial)) (K.Sub.refl _) (fun y hI => ?_)
      have hyl : ((x.2.1.take y.1).map (fun o => o.x.id)).length ≤ y.1 := by rw [List.length_map, List.length_take]; omega
      refine K.GC.seq ?_
      refine K.GC.seq ?_
      refine K.GC.region ?_
      refine K.GL.det (K.e_move rfl) rfl ?_
      refine K.GL.det (K.e_move rfl) rfl ?_
      refine K.GL.det (K.e_len Try.underlying53 rfl) rfl ?_
      first | refine K.GL.det ((K.e_lt rfl rfl).yes (by first | omega | assumption | decide +kernel)) rfl ?_ | refine K.GL.det ((K.e_lt rfl rfl).no (by first | omega | assumption | decide +kernel)) rfl ?_ | refine K.GL.det (K.e_lt rfl rfl) rfl ?_
      refine K.GL.nil ?_
      refine K.GQ.go ?_
      refine K.GC.condB rfl (fun h4 => ?_) (fun h4 => ?_)
      · first
        | exact absurd h4 (by decide)
        | try replace h4 := of_decide_eq_true h4
          refine K.GC.skip ?_
          refine K.GQ.go ?_
          refine K.GC.seq ?_
          refine K.GC.block ?_
          obtain ⟨q2, hq2⟩ : ∃ q, x.2.1[y.1]? = some q := get_ex (by omega)
          refine K.GC.region ?_
          refine K.GL.det (K.e_move rfl) rfl ?_
          refine K.GL.det (K.e_move rfl) rfl ?_
          refine K.GL.det (K.e_move rfl) rfl ?_
          first | refine K.GL.ixK sl53 rfl rfl rfl rfl (by assumption) rfl ?_ | refine K.GL.ix sl53 rfl rfl rfl rfl (by omega) rfl (fun q77 hq77 => ?_) | refine K.GL.ixI sl53 rfl rfl rfl rfl (by omega) (by omega) rfl (fun q77 hq77 => ?_) | refine K.GL.det (K.e_indexAddrS sl53 rfl rfl (by assumption) (by omega) (by omega)) rfl ?_ | refine K.GL.det (K.e_indexAddr sl53 rfl rfl (by omega) (by omega)) rfl ?_
          first | refine K.GL.det (K.e_fa fo33_0 rfl) rfl ?_ | refine K.GL.det (K.e_fieldAddr fo33_0 rfl) rfl ?_
          first | refine K.GL.det (K.e_fa fo28_0 rfl) rfl ?_ | refine K.GL.det (K.e_fieldAddr fo28_0 rfl) rfl ?_
          refine K.GL.det (K.e_ldF (l := x.2.1) (e := encOE) (o := 0) Try.isAgg2 rfl rfl hq2 rfl) rfl ?_
          refine K.GL.buildT (K.encI .i64) [q2.x.id] mk50 rfl rfl rfl rfl rfl (fun b81 => ?_)
          first | refine K.GL.appendT mk50 rfl rfl rfl rfl rfl (by first | omega | (simp only [List.length_cons, List.length_nil, List.length_append]; omega)) (by first | omega | (simp only [List.length_cons, List.length_nil, List.length_append]; omega)) rfl (fun a82 c82 => ?_) | (refine K.GL.trow0 2 (K.encI .i64) ?_; refine K.GL.appendT mk50 rfl rfl rfl rfl rfl (by first | omega | (simp only [List.length_cons, List.length_nil, List.length_append]; omega)) (by first | omega | (simp only [List.length_cons, List.length_nil, List.length_append]; omega)) rfl (fun a82 c82 => ?_))
          refine K.GL.det (K.e_assign rfl) rfl ?_
          refine K.GL.nil ?_
          refine K.GQ.block_normal ?_
          refine K.GQ.go ?_
          refine K.GC.region ?_
          refine K.GL.det (K.e_move rfl) rfl ?_
          first | refine K.GL.det (K.e_add rfl rfl ⟨by omega, by omega⟩) rfl ?_ | refine K.GL.det (K.e_addw rfl rfl) rfl ?_
          refine K.GL.det (K.e_assign rfl) rfl ?_
          refine K.GL.nil ?_
          exact K.GQ.round ((y.1 + 1, a82, c82) : Nat × Option Addr × Nat) (by show y.1 + 1 ≤ _; omega) (by simp only; omega) (by simp only [ids_next hq2]; (repeat refine ⟨rfl, ?_⟩); exact trivial) (by simp only [ids_next hq2]; exact K.sb)
      · first
        | exact absurd h4 (by decide)
        | try replace h4 := of_decide_eq_false h4
          refine K.GC.exit ?_
          refine K.GQ.then_exit ?_
          refine K.GQ.then_exit ?_
          refine K.GQ.block_hit ?_
          refine K.GQ.go ?_
          refine K.GC.seq ?_
          refine K.GC.region ?_
          refine K.GL.det (K.e_move rfl) rfl ?_
          refine K.GL.det (K.e_assign rfl) rfl ?_
          refine K.GL.nil ?_
          refine K.GQ.go ?_
          refine K.GC.ret ?_
          refine K.GQ.ret1 Try.results30 rfl (fun w hT => ?_)
          have hy3 : y.1 = x.2.1.length := by omega
          have h1 := hI2
          rw [hy3, List.take_length] at hT
          have e : x.2.1.map (fun o => o.x.id) = (inS gr.xs k gr.l.length).map EX.id := by rw [← hx2, ← h1, List.map_map]; rfl
          rw [e] at hT
          exact ⟨y.2.1, y.2.2, by rw [hy3, List.take_length, e], rclose (hT.sub K.sb)⟩
section
variable {ops : Array Oper} {Q : Exit → Act → World → Prop} {N : Nat} {U : Env} {w0 : World} {L0 L F : List Res} {ty : TypeId} {rest : List Oper} {pos : String} {after : Array Edge} {xs : List Operand} {tys : Array TypeId} {dT : Tmp}
theorem gl_rin_con {rp : Nat} {gr : RI} {k : Int}  {F1 : List Res}(hf : ∀ args w, (callFunc 30 args).run Try.prog w = .ok (.enter 30 args) w) (hx : opvs U xs = some [.pointer (some ⟨rp, 0, none⟩), .int .i64 k]) [p1 : PkI L rp gr F1] (hz : gr.l.length ≤ 9000) (hn : (gr.xs.map EX.id).Nodup) (hd : Nat.ble (dT + 1) N = true)
    (hr : ∀ (a' : Option Addr) (c' : Nat), GL Try.prog ops Q rest N ((dT, .slice a' ((inS gr.xs k gr.l.length).map EX.id).length c') :: U) w0 L0 (trow a' c' 2 (K.encI .i64) ((inS gr.xs k gr.l.length).map EX.id) :: RefI rp gr :: F1)) : GL Try.prog ops Q (⟨some dT, .call ⟨.value (.func 30), xs.toArray, tys⟩, ty, pos, after, Option.none⟩ :: rest) N U w0 L0 L :=
  GL.callM (α := (Option Addr) × (Nat)) (l := [RefI rp gr]) (Pv := fun y v => v = .slice y.1 ((inS gr.xs k gr.l.length).map EX.id).length y.2) (l' := fun y => [trow y.1 y.2 2 (K.encI .i64) ((inS gr.xs k gr.l.length).map EX.id), RefI rp gr]) hf hx (p1.out)
    (fun w hT => by
      have hT1 : Tr w0 L0 w ([RefI rp gr] ++ F1) := hT.sub (p1.out); have hd0 := Disj.left hT1.disj; have ho0 := fun r hr => hT1.ok r (List.mem_append_left _ hr); exact (rin_con hz hn hd0 ho0).mono fun e w' ⟨a', c', h1, h2⟩ => ⟨(a', c'), _, h1, rfl, h2⟩) hd fun y v hv => by subst hv; exact hr y.1 y.2 
end
end Go.Proofs.Ytcphpcjcbmennaa
