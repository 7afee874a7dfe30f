/- The functions of a device as a caller meets them; a table saved and loaded. -/
import Derived.Test.YtdbedajaapamhaaGreatTabO
import Derived.Test.YtdbedajaapamhaaGreatSuD
import Derived.Test.YtdbedajaapamhaaGreatKq
namespace Go.Proofs.YtdbedajaapamhaaGreat
open Go Go.K
set_option linter.unusedVariables false
set_option linter.unusedSimpArgs false
attribute [local irreducible] Calls Ev GL GC GQ GR Code.wp

class PkD (L : List Res) (d : Nat) (g : outParam DG) (F : outParam (List Res)) : Prop where
  out : Sub (DevR d g :: F) L

instance PkD.tail {L F : List Res} {s : Res} {d : Nat} {g : DG} [h : PkD L d g F] : PkD (s :: L) d g (s :: F) := ⟨(Sub.swap _ s F).trans (h.out.cons s)⟩

instance PkD.head {L : List Res} {d : Nat} {g : DG} : PkD (DevR d g :: L) d g L := ⟨Sub.refl _⟩

/-- A device that may be asked. -/

class InD (w0 : World) (L0 L : List Res) (d : Nat) (g : outParam DG) : Prop where
  out : ∀ w, Tr w0 L0 w L → (DevR d g).ok w.heap

instance InD.tail {w0 : World} {L0 L : List Res} {s : Res} {d : Nat} {g : DG} [h : InD w0 L0 L d g] : InD w0 L0 (s :: L) d g := ⟨fun w hT => h.out w hT.drop_one⟩

instance InD.head {w0 : World} {L0 L : List Res} {d : Nat} {g : DG} : InD w0 L0 (DevR d g :: L) d g := ⟨fun w hT => hT.ok _ List.mem_cons_self⟩

theorem slot_val (g : Int) : IntKind.i64.wrap ((BitVec.ofInt IntKind.i64.bits g &&& BitVec.ofInt IntKind.i64.bits 1).toNat : Int) = g % 2 := by
  have h1 : (BitVec.ofInt 64 1).toNat = 1 := rfl
  show IntKind.i64.wrap ((BitVec.ofInt 64 g &&& BitVec.ofInt 64 1).toNat : Int) = g % 2
  rw [BitVec.toNat_and, h1, Nat.and_one_is_mod, BitVec.toNat_ofInt]
  have h2 : ((2 : Int) ^ 64) = 18446744073709551616 := rfl
  have h3 : (((2 : Nat) ^ 64 : Nat) : Int) = 18446744073709551616 := rfl
  rw [h3]
  rw [wrap_i64 (by omega) (by omega)]
  omega

def DS.save3 (s : DS) (t : Tab) : DS × Int :=
  if s.flush.2 ≠ 0 then s.flush else
    if (s.flush.1.write (t.gen % 2) (putT t)).2 ≠ 0 then s.flush.1.write (t.gen % 2) (putT t) else (s.flush.1.write (t.gen % 2) (putT t)).1.flush

/-- A table saved. -/

def DS.save (s : DS) (t : Tab) : DS × Int := if rightB t = true then s.save3 t else (s, 1)

def loadS (s : DS) (i : Nat) (best : Tab) : Tab := if getB (s.read (i : Int)).1 = true ∧ (getT (s.read (i : Int)).1).gen % 2 = (i : Int) ∧ best.gen < (getT (s.read (i : Int)).1).gen then getT (s.read (i : Int)).1 else best

def loadN (s : DS) : Nat → Tab
  | 0 => ⟨0, 0, []⟩
  | x + 1 => loadS s x (loadN s x)

/-- A table loaded. -/

def DS.load (s : DS) : Tab × Bool × Int :=
  if (s.read 0).2 ≠ 0 then (⟨0, 0, []⟩, false, (s.read 0).2) else if (s.read 1).2 ≠ 0 then (⟨0, 0, []⟩, false, (s.read 1).2) else (loadN s 2, decide (0 < (loadN s 2).gen), 0)

theorem read_len (s : DS) (i : Int) : (s.read i).1.length ≤ 64 := by
  unfold DS.read
  split
  · split
    · simp
    · split
      · rename_i y _; rw [y.2]; exact Nat.le_refl _
      · simp
  · simp

theorem load_yes {s : DS} {x : Nat} (h1 : getB (s.read (x : Int)).1 = true) (h2 : (getT (s.read (x : Int)).1).gen % 2 = (x : Int)) (h3 : (loadN s x).gen < (getT (s.read (x : Int)).1).gen) : loadN s (x + 1) = getT (s.read (x : Int)).1 := by
  rw [loadN, loadS, if_pos ⟨h1, h2, h3⟩]

theorem load_no {s : DS} {x : Nat} (h : getB (s.read (x : Int)).1 = true → (getT (s.read (x : Int)).1).gen % 2 = (x : Int) → (loadN s x).gen < (getT (s.read (x : Int)).1).gen → False) : loadN s (x + 1) = loadN s x := by
  rw [loadN, loadS, if_neg (fun h4 => h h4.1 h4.2.1 h4.2.2)]

theorem load_bad {s : DS} {x : Nat} (hx : x < 2) (h : ∀ y : Nat, y < x → (s.read (y : Int)).2 = 0) (h2 : (s.read (x : Int)).2 ≠ 0) : s.load = (⟨0, 0, []⟩, false, (s.read (x : Int)).2) := by
  unfold DS.load
  rcases (by omega : x = 0 ∨ x = 1) with rfl | rfl
  · rw [if_pos (by exact h2)]; rfl
  · have h0 := h 0 (by omega)
    rw [if_neg (by exact fun h3 => h3 h0), if_pos (by exact h2)]; rfl

theorem load_ok {s : DS} (h : ∀ y : Nat, y < 2 → (s.read (y : Int)).2 = 0) : s.load = (loadN s 2, decide (0 < (loadN s 2).gen), 0) := by
  have h0 := h 0 (by omega)
  have h1 := h 1 (by omega)
  unfold DS.load
  rw [if_neg (by exact fun h3 => h3 h0), if_neg (by exact fun h3 => h3 h1)]

/- (*turntable/dev.Dev).Write -/
theorem dwrite_con {d : Nat} {g : DG} {s : DS} {i : Int} {bs : Bytes} {a : Option Addr} {c : Nat} {w : World} (hk : g.Ok) (hs : g.v = s) [Old w [DevR d g] a (encB) (bs)] (hd : Disj [DevR d g]) (ho : ∀ r ∈ ([DevR d g] : List Res), r.ok w.heap) :
    Calls Tryz.prog 14 #[.pointer (some ⟨d, 0, none⟩), .int .i64 i, .slice a bs.length c] w fun e w' => ∃ g' : DG, e = .returned (.int .i64 (s.write i bs).2) ∧ g'.Ok ∧ g'.v = (s.write i bs).1 ∧ Tr w [DevR d g] w' [DevR d g'] := by
  subst hs
  have hS : Old w [DevR d g] a encB bs := inferInstance
  have h1 := hS.sl
  rw [encB_fl] at h1
  refine (write_con hk i (ho _ List.mem_cons_self) h1 (fun h0 => hS.ap (by intro e; subst e; exact absurd h0 (by decide)) _ List.mem_cons_self)).mono fun e w' ⟨x, h1, h2, h3, h4⟩ => ⟨x, h1, h2, h3, h4⟩
section
variable {ops : Array Oper} {Q : Exit → Act → World → Prop} {N : Nat} {U : Env} {w0 : World} {L0 L F : List Res} {ty : TypeId} {rest : List Oper} {pos : String} {after : Array Edge} {xs : List Operand} {tys : Array TypeId} {dT : Tmp}
theorem gl_dwrite_con {d : Nat} {g : DG} {s : DS} {i : Int} {bs : Bytes} {a : Option Addr} {c : Nat}  {F1 : List Res}(hf : ∀ args w, (callFunc 14 args).run Tryz.prog w = .ok (.enter 14 args) w) (hx : opvs U xs = some [.pointer (some ⟨d, 0, none⟩), .int .i64 i, .slice a bs.length c]) [p1 : PkD L d g F1] (hk : g.Ok) (hs : g.v = s) [o0 : RdC w0 L0 [DevR d g] F1 a (encB) (bs)] (hd : Nat.ble (dT + 1) N = true)
    (hr : ∀ (g' : DG), g'.Ok → g'.v = (s.write i bs).1 → GL Tryz.prog ops Q rest N ((dT, .int .i64 (s.write i bs).2) :: U) w0 L0 (DevR d g' :: F1)) : GL Tryz.prog ops Q (⟨some dT, .call ⟨.value (.func 14), xs.toArray, tys⟩, ty, pos, after, Option.none⟩ :: rest) N U w0 L0 L :=
  GL.callM (α := (DG)) (l := [DevR d g]) (Pv := fun y v => v = .int .i64 (s.write i bs).2 ∧ y.Ok ∧ y.v = (s.write i bs).1) (l' := fun y => [DevR d y]) hf hx (p1.out)
    (fun w hT => by
      have hT1 : Tr w0 L0 w ([DevR d g] ++ F1) := hT.sub (p1.out); have _o0 := o0.out w hT1; have hd0 := Disj.left hT1.disj; have ho0 := fun r hr => hT1.ok r (List.mem_append_left _ hr); exact (dwrite_con hk hs hd0 ho0).mono fun e w' ⟨g', h1, g0, g1, h2⟩ => ⟨(g'), _, h1, ⟨rfl, g0, g1⟩, h2⟩) hd fun y v hv => by obtain ⟨rfl, g0, g1⟩ := hv; exact hr y g0 g1
end
/- (*turntable/dev.Dev).Flush -/
theorem dflush_con {d : Nat} {g : DG} {s : DS} {w : World} (hk : g.Ok) (hs : g.v = s) (hd : Disj [DevR d g]) (ho : ∀ r ∈ ([DevR d g] : List Res), r.ok w.heap) :
    Calls Tryz.prog 30 #[.pointer (some ⟨d, 0, none⟩)] w fun e w' => ∃ g' : DG, e = .returned (.int .i64 s.flush.2) ∧ g'.Ok ∧ g'.v = s.flush.1 ∧ Tr w [DevR d g] w' [DevR d g'] := by
  subst hs
  refine (flush_con hk (ho _ List.mem_cons_self)).mono fun e w' ⟨x, h1, h2, h3, h4⟩ => ⟨x, h1, h2, h3, h4⟩
section
variable {ops : Array Oper} {Q : Exit → Act → World → Prop} {N : Nat} {U : Env} {w0 : World} {L0 L F : List Res} {ty : TypeId} {rest : List Oper} {pos : String} {after : Array Edge} {xs : List Operand} {tys : Array TypeId} {dT : Tmp}
end
/- (*turntable/dev.Dev).Cut -/
theorem dcut_con {d : Nat} {g : DG} {s : DS} {i : Int} {w : World} (hk : g.Ok) (hs : g.v = s) (hi : I64 i) (hd : Disj [DevR d g]) (ho : ∀ r ∈ ([DevR d g] : List Res), r.ok w.heap) :
    Calls Tryz.prog 10 #[.pointer (some ⟨d, 0, none⟩), .int .i64 i] w fun e w' => ∃ g' : DG, e = .returned (.tuple #[]) ∧ g'.Ok ∧ g'.v = s.setCut i ∧ Tr w [DevR d g] w' [DevR d g'] := by
  subst hs
  refine (cut_con i (ho _ List.mem_cons_self)).mono fun e w' ⟨h1, h2⟩ => ⟨g.setCut i, h1, DG.setCut_ok hk hi, DG.v_setCut g i, h2⟩
section
variable {ops : Array Oper} {Q : Exit → Act → World → Prop} {N : Nat} {U : Env} {w0 : World} {L0 L F : List Res} {ty : TypeId} {rest : List Oper} {pos : String} {after : Array Edge} {xs : List Operand} {tys : Array TypeId} {dT : Tmp}
theorem gl_dcut_con {d : Nat} {g : DG} {s : DS} {i : Int}  {F1 : List Res}(hf : ∀ args w, (callFunc 10 args).run Tryz.prog w = .ok (.enter 10 args) w) (hx : opvs U xs = some [.pointer (some ⟨d, 0, none⟩), .int .i64 i]) [p1 : PkD L d g F1] (hk : g.Ok) (hs : g.v = s) (hi : I64 i) (hd : Nat.ble (dT + 1) N = true)
    (hr : ∀ (g' : DG), g'.Ok → g'.v = s.setCut i → GL Tryz.prog ops Q rest N ((dT, .tuple #[]) :: U) w0 L0 (DevR d g' :: F1)) : GL Tryz.prog ops Q (⟨some dT, .call ⟨.value (.func 10), xs.toArray, tys⟩, ty, pos, after, Option.none⟩ :: rest) N U w0 L0 L :=
  GL.callM (α := (DG)) (l := [DevR d g]) (Pv := fun y v => v = .tuple #[] ∧ y.Ok ∧ y.v = s.setCut i) (l' := fun y => [DevR d y]) hf hx (p1.out)
    (fun w hT => by
      have hT1 : Tr w0 L0 w ([DevR d g] ++ F1) := hT.sub (p1.out); have hd0 := Disj.left hT1.disj; have ho0 := fun r hr => hT1.ok r (List.mem_append_left _ hr); exact (dcut_con hk hs hi hd0 ho0).mono fun e w' ⟨g', h1, g0, g1, h2⟩ => ⟨(g'), _, h1, ⟨rfl, g0, g1⟩, h2⟩) hd fun y v hv => by obtain ⟨rfl, g0, g1⟩ := hv; exact hr y g0 g1
end
/- turntable/dev.New -/
theorem dnew2_con {n : Int} {w : World} (hn : 1 ≤ n ∧ n ≤ 4096) :
    Calls Tryz.prog 6 #[.int .i64 n] w fun e w' => ∃ d' : Nat, ∃ k' : Nat, ∃ m' : Nat, e = .returned (.pointer (some ⟨ d', 0, none⟩)) ∧ Tr w [] w' [DevR d' (DG.new n.toNat k' m')] := by
  refine (new_con n).mono fun e w' h => ?_
  rcases h with ⟨h1, _⟩ | ⟨d, kb, mb, _, h2, h5⟩
  · exact absurd hn h1
  · exact ⟨d, kb, mb, h2, h5⟩
section
variable {ops : Array Oper} {Q : Exit → Act → World → Prop} {N : Nat} {U : Env} {w0 : World} {L0 L F : List Res} {ty : TypeId} {rest : List Oper} {pos : String} {after : Array Edge} {xs : List Operand} {tys : Array TypeId} {dT : Tmp}
theorem gl_dnew2_con {n : Int} (hf : ∀ args w, (callFunc 6 args).run Tryz.prog w = .ok (.enter 6 args) w) (hx : opvs U xs = some [.int .i64 n]) (hn : 1 ≤ n ∧ n ≤ 4096) (hd : Nat.ble (dT + 1) N = true)
    (hr : ∀ (d' : Nat) (k' : Nat) (m' : Nat), GL Tryz.prog ops Q rest N ((dT, .pointer (some ⟨ d', 0, none⟩)) :: U) w0 L0 (DevR d' (DG.new n.toNat k' m') :: L)) : GL Tryz.prog ops Q (⟨some dT, .call ⟨.value (.func 6), xs.toArray, tys⟩, ty, pos, after, Option.none⟩ :: rest) N U w0 L0 L :=
  GL.callM (α := (Nat) × (Nat) × (Nat)) (l := []) (Pv := fun y v => v = .pointer (some ⟨ y.1, 0, none⟩)) (l' := fun y => [DevR y.1 (DG.new n.toNat y.2.1 y.2.2)]) hf hx (Sub.refl _)
    (fun w hT => by
      exact (dnew2_con hn).mono fun e w' ⟨d', k', m', h1, h2⟩ => ⟨(d', k', m'), _, h1, rfl, h2⟩) hd fun y v hv => by subst hv; exact hr y.1 y.2.1 y.2.2 
end
section
variable {ops : Array Oper} {Q : Exit → Act → World → Prop} {N : Nat} {U : Env} {w0 : World} {L0 L F : List Res} {ty : TypeId} {rest : List Oper} {pos : String} {after : Array Edge} {xs : List Operand} {tys : Array TypeId} {dT : Tmp}
end
/- turntable/dev.New -/
theorem dnew_con {n : Int} {w : World} (hn : 1 ≤ n ∧ n ≤ 4096) :
    Calls Tryz.prog 6 #[.int .i64 n] w fun e w' => ∃ d' : Nat, ∃ g' : DG, e = .returned (.pointer (some ⟨ d', 0, none⟩)) ∧ g'.Ok ∧ g'.v = DS.new n.toNat ∧ Tr w [] w' [DevR d' g'] := by
  refine (new_con n).mono fun e w' h => ?_
  rcases h with ⟨h1, _⟩ | ⟨d, kb, mb, _, h2, h5⟩
  · exact absurd hn h1
  · exact ⟨d, _, h2, DG.new_ok (by omega) (by omega), rfl, h5⟩
section
variable {ops : Array Oper} {Q : Exit → Act → World → Prop} {N : Nat} {U : Env} {w0 : World} {L0 L F : List Res} {ty : TypeId} {rest : List Oper} {pos : String} {after : Array Edge} {xs : List Operand} {tys : Array TypeId} {dT : Tmp}
theorem gl_dnew_con {n : Int} (hf : ∀ args w, (callFunc 6 args).run Tryz.prog w = .ok (.enter 6 args) w) (hx : opvs U xs = some [.int .i64 n]) (hn : 1 ≤ n ∧ n ≤ 4096) (hd : Nat.ble (dT + 1) N = true)
    (hr : ∀ (d' : Nat) (g' : DG), g'.Ok → g'.v = DS.new n.toNat → GL Tryz.prog ops Q rest N ((dT, .pointer (some ⟨ d', 0, none⟩)) :: U) w0 L0 (DevR d' g' :: L)) : GL Tryz.prog ops Q (⟨some dT, .call ⟨.value (.func 6), xs.toArray, tys⟩, ty, pos, after, Option.none⟩ :: rest) N U w0 L0 L :=
  GL.callM (α := (Nat) × (DG)) (l := []) (Pv := fun y v => v = .pointer (some ⟨ y.1, 0, none⟩) ∧ y.2.Ok ∧ y.2.v = DS.new n.toNat) (l' := fun y => [DevR y.1 y.2]) hf hx (Sub.refl _)
    (fun w hT => by
      exact (dnew_con hn).mono fun e w' ⟨d', g', h1, g0, g1, h2⟩ => ⟨(d', g'), _, h1, ⟨rfl, g0, g1⟩, h2⟩) hd fun y v hv => by obtain ⟨rfl, g0, g1⟩ := hv; exact hr y.1 y.2 g0 g1
end
/- (*turntable/dev.Dev).Read -/
theorem dread_con {d : Nat} {g : DG} {s : DS} {i : Int} {w : World} (hk : g.Ok) (hs : g.v = s) (ho : (DevR d g).ok w.heap) :
    Calls Tryz.prog 41 #[.pointer (some ⟨d, 0, none⟩), .int .i64 i] w fun e w' => ∃ a' : Option Addr, ∃ c' : Nat, e = .returned (.tuple #[.slice a' (s.read i).1.length c', .int .i64 (s.read i).2]) ∧ Tr w [] w' [trow a' c' 69 encB (s.read i).1] := by
  subst hs
  refine (read_con hk i ho).mono fun e w' ⟨a, c, h1, h2⟩ => ⟨a, c, h1, ?_⟩
  unfold trow
  rw [encB_fl]
  exact h2
section
variable {ops : Array Oper} {Q : Exit → Act → World → Prop} {N : Nat} {U : Env} {w0 : World} {L0 L F : List Res} {ty : TypeId} {rest : List Oper} {pos : String} {after : Array Edge} {xs : List Operand} {tys : Array TypeId} {dT : Tmp}
theorem gl_dread_con {d : Nat} {g : DG} {s : DS} {i : Int} (hf : ∀ args w, (callFunc 41 args).run Tryz.prog w = .ok (.enter 41 args) w) (hx : opvs U xs = some [.pointer (some ⟨d, 0, none⟩), .int .i64 i]) (hk : g.Ok) (hs : g.v = s) [i0 : InD w0 L0 L d g] (hd : Nat.ble (dT + 1) N = true)
    (hr : ∀ (a' : Option Addr) (c' : Nat), GL Tryz.prog ops Q rest N ((dT, .tuple #[.slice a' (s.read i).1.length c', .int .i64 (s.read i).2]) :: U) w0 L0 (trow a' c' 69 encB (s.read i).1 :: L)) : GL Tryz.prog ops Q (⟨some dT, .call ⟨.value (.func 41), xs.toArray, tys⟩, ty, pos, after, Option.none⟩ :: rest) N U w0 L0 L :=
  GL.callM (α := (Option Addr) × (Nat)) (l := []) (Pv := fun y v => v = .tuple #[.slice y.1 (s.read i).1.length y.2, .int .i64 (s.read i).2]) (l' := fun y => [trow y.1 y.2 69 encB (s.read i).1]) hf hx (Sub.refl _)
    (fun w hT => by
      exact (dread_con hk hs (i0.out w hT)).mono fun e w' ⟨a', c', h1, h2⟩ => ⟨(a', c'), _, h1, rfl, h2⟩) hd fun y v hv => by subst hv; exact hr y.1 y.2 
end
section
variable {ops : Array Oper} {Q : Exit → Act → World → Prop} {N : Nat} {U : Env} {w0 : World} {L0 L F : List Res} {ty : TypeId} {rest : List Oper} {pos : String} {after : Array Edge} {xs : List Operand} {tys : Array TypeId} {dT : Tmp}
end
/- turntable/super.Slot -/
set_option maxHeartbeats 1000000 in
set_option maxRecDepth 100000 in
theorem slot_con {n : Int} {w : World} :
    Calls Tryz.prog 24 #[.int .i64 n] w fun e w' => e = .returned (.int .i64 (n % 2)) ∧ Tr w [] w' [] := by
  refine K.enter0 (args := [_]) Tryz.func24 rfl Tryz.ntmps24 rfl ?_
  refine K.GC.seq ?_
  refine K.GC.region ?_
  refine K.GL.det (K.e_assign rfl) rfl ?_
  refine K.GL.nil ?_
  refine K.GQ.go ?_
  refine K.GC.seq ?_
  refine K.GC.region ?_
  refine K.GL.det (K.e_move rfl) rfl ?_
  refine K.GL.det ((K.e_and rfl rfl).cast_int (slot_val n)) rfl ?_
  refine K.GL.det (K.e_assign rfl) rfl ?_
  refine K.GL.nil ?_
  refine K.GQ.go ?_
  refine K.GC.ret ?_
  refine K.GQ.ret1 Tryz.results24 rfl (fun w hT => ?_)
  exact ⟨rfl, hT.nil⟩
section
variable {ops : Array Oper} {Q : Exit → Act → World → Prop} {N : Nat} {U : Env} {w0 : World} {L0 L F : List Res} {ty : TypeId} {rest : List Oper} {pos : String} {after : Array Edge} {xs : List Operand} {tys : Array TypeId} {dT : Tmp}
theorem ev_slot_con {n : Int} (hf : ∀ args w, (callFunc 24 args).run Tryz.prog w = .ok (.enter 24 args) w) (hx : opvs U xs = some [.int .i64 n]) : Ev Tryz.prog U w0 L0 L (.call ⟨.value (.func 24), xs.toArray, tys⟩) ty (Is (.int .i64 (n % 2))) No :=
  K.e_call1 hf hx (fun w hT => by exact slot_con )
end
/- turntable/super.Save$1 -/
set_option maxHeartbeats 1000000 in
set_option maxRecDepth 100000 in
theorem save1_con {d : Nat} {g : DG} {s : DS} {t : Tab} {a a5 : Option Addr} {c c5 b2 b3 b5 : Nat} {w : World} (hk : g.Ok) (hs : g.v = s) (hd : Disj [DevR d g, cl b2 25 [.pointer (some ⟨d, 0, none⟩)], cl b3 31 (tabC t a c), cl b5 32 [.slice a5 (putT t).length c5], trow a5 c5 104 encB (putT t)]) (ho : ∀ r ∈ ([DevR d g, cl b2 25 [.pointer (some ⟨d, 0, none⟩)], cl b3 31 (tabC t a c), cl b5 32 [.slice a5 (putT t).length c5], trow a5 c5 104 encB (putT t)] : List Res), r.ok w.heap) :
    Calls Tryz.prog 31 #[.pointer (some ⟨b2, 0, none⟩), .pointer (some ⟨b3, 0, none⟩), .pointer (some ⟨b5, 0, none⟩)] w fun e w' => ∃ g' : DG, e = .returned (.int .i64 (s.write (t.gen % 2) (putT t)).2) ∧ g'.Ok ∧ g'.v = (s.write (t.gen % 2) (putT t)).1 ∧ Tr w [DevR d g, cl b2 25 [.pointer (some ⟨d, 0, none⟩)], cl b3 31 (tabC t a c), cl b5 32 [.slice a5 (putT t).length c5], trow a5 c5 104 encB (putT t)] w' [DevR d g', cl b2 25 [.pointer (some ⟨d, 0, none⟩)], cl b3 31 (tabC t a c), cl b5 32 [.slice a5 (putT t).length c5], trow a5 c5 104 encB (putT t)] := by
  refine K.enter (args := [_, _, _]) Tryz.func31 rfl Tryz.ntmps31 rfl hd ho ?_
  refine K.GC.seq ?_
  refine K.GC.region ?_
  refine K.GL.det (K.e_assign rfl) rfl ?_
  refine K.GL.nil ?_
  refine K.GQ.go ?_
  refine K.GC.seq ?_
  refine K.D.GC.drawn0 5 [[], [], [1], [1, 2], [], [0, 1, 2, 3, 4], [0, 1, 2, 3, 4, 5]] [[], [], [1], [2], []] [[], [], [], [], []] [[], [], [], [], []] [] [0, 1, 2, 3, 9] (by kernel_rfl) (by kernel_rfl) (by kernel_rfl) rfl ?_
  first | refine K.D.DW.det (b := []) (u := []) rfl rfl rfl (fun vs hf => K.e_ldE Tryz.isAgg25 rfl rfl (by assumption) rfl) ?_ | refine K.D.DW.det (b := []) (u := []) rfl rfl rfl (fun vs hf => K.e_ldF Tryz.isAgg25 rfl rfl (by assumption) rfl) ?_ | refine K.D.DW.det (b := []) (u := []) rfl rfl rfl (fun vs hf => K.e_load Tryz.isAgg25 rfl rfl) ?_ | refine K.D.DW.det (b := []) (u := []) rfl rfl rfl (fun vs hf => K.e_load0 Tryz.isAgg25 rfl (by assumption)) ?_
  first | refine K.D.DW.det (b := []) (u := []) rfl rfl rfl (fun vs hf => K.e_fa fo31_0 rfl) ?_ | refine K.D.DW.det (b := []) (u := []) rfl rfl rfl (fun vs hf => K.e_fieldAddr fo31_0 rfl) ?_
  first | refine K.D.DW.det (b := [1]) (u := []) rfl rfl rfl (fun vs hf => K.e_ldE Tryz.isAgg2 rfl rfl (by assumption) rfl) ?_ | refine K.D.DW.det (b := [1]) (u := []) rfl rfl rfl (fun vs hf => K.e_ldF Tryz.isAgg2 rfl rfl (by assumption) rfl) ?_ | refine K.D.DW.det (b := [1]) (u := []) rfl rfl rfl (fun vs hf => K.e_load Tryz.isAgg2 rfl rfl) ?_ | refine K.D.DW.det (b := [1]) (u := []) rfl rfl rfl (fun vs hf => K.e_load0 Tryz.isAgg2 rfl (by assumption)) ?_
  refine K.D.DW.det (b := [2]) (u := []) rfl rfl rfl (fun vs hf => ev_slot_con Tryz.call24 rfl ) ?_
  first | refine K.D.DW.det (b := []) (u := []) rfl rfl rfl (fun vs hf => K.e_ldE Tryz.isAgg32 rfl rfl (by assumption) rfl) ?_ | refine K.D.DW.det (b := []) (u := []) rfl rfl rfl (fun vs hf => K.e_ldF Tryz.isAgg32 rfl rfl (by assumption) rfl) ?_ | refine K.D.DW.det (b := []) (u := []) rfl rfl rfl (fun vs hf => K.e_load Tryz.isAgg32 rfl rfl) ?_ | refine K.D.DW.det (b := []) (u := []) rfl rfl rfl (fun vs hf => K.e_load0 Tryz.isAgg32 rfl (by assumption)) ?_
  refine K.D.DW.fin (fun vs hf => ?_)
  refine K.GL.keep [3, 4, 7, 8, 9] rfl ?_
  refine K.D.GL.res0 rfl ?_
  clear hf
  try clear vs
  refine gl_dwrite_con Tryz.call14 rfl (by first | assumption | omega | rfl | decide) (by first | assumption | omega | rfl | decide) rfl (fun g9 hk9 hv9 => ?_)
  refine K.GL.det (K.e_assign rfl) rfl ?_
  refine K.GL.nil ?_
  refine K.GQ.go ?_
  refine K.GC.ret ?_
  refine K.GQ.ret1 Tryz.results31 rfl (fun w hT => ?_)
  exact ⟨g9, rfl, hk9, hv9, hT.sub K.sb⟩
section
variable {ops : Array Oper} {Q : Exit → Act → World → Prop} {N : Nat} {U : Env} {w0 : World} {L0 L F : List Res} {ty : TypeId} {rest : List Oper} {pos : String} {after : Array Edge} {xs : List Operand} {tys : Array TypeId} {dT : Tmp}
end

section

variable {ops : Array Oper} {Q : Exit → Act → World → Prop} {N : Nat} {U : Env} {w0 : World} {L0 L F : List Res} {ty : TypeId} {rest : List Oper} {pos : String} {after : Array Edge} {xs : List Operand} {tys : Array TypeId} {dT : Tmp}

theorem glv_dflush_con {x : Operand} {d : Nat} {g : DG} {s : DS}  {F1 : List Res}(hf : ∀ args w, (callFunc 30 args).run Tryz.prog w = .ok (.enter 30 args) w) (hv : opv U x = some (.func (.func 30) #[.pointer (some ⟨d, 0, none⟩)] #[])) (hx : opvs U xs = some []) [p1 : PkD L d g F1] (hk : g.Ok) (hs : g.v = s) (hd : Nat.ble (dT + 1) N = true)
    (hr : ∀ (g' : DG), g'.Ok → g'.v = s.flush.1 → GL Tryz.prog ops Q rest N ((dT, .int .i64 s.flush.2) :: U) w0 L0 (DevR d g' :: F1)) : GL Tryz.prog ops Q (⟨some dT, .call ⟨.value x, xs.toArray, tys⟩, ty, pos, after, Option.none⟩ :: rest) N U w0 L0 L :=
  GL.callB (fst := [.pointer (some ⟨d, 0, none⟩)]) (cap := []) (α := (DG)) (l := [DevR d g]) (Pv := fun y v => v = .int .i64 s.flush.2 ∧ y.Ok ∧ y.v = s.flush.1) (l' := fun y => [DevR d y]) hf hv hx (p1.out)
    (fun w hT => by
      have hT1 : Tr w0 L0 w ([DevR d g] ++ F1) := hT.sub (p1.out); have hd0 := Disj.left hT1.disj; have ho0 := fun r hr => hT1.ok r (List.mem_append_left _ hr); exact (dflush_con hk hs hd0 ho0).mono fun e w' ⟨g', h1, g0, g1, h2⟩ => ⟨(g'), _, h1, ⟨rfl, g0, g1⟩, h2⟩) hd fun y v hv0 => by obtain ⟨rfl, g0, g1⟩ := hv0; exact hr y g0 g1

end

section

variable {ops : Array Oper} {Q : Exit → Act → World → Prop} {N : Nat} {U : Env} {w0 : World} {L0 L F : List Res} {ty : TypeId} {rest : List Oper} {pos : String} {after : Array Edge} {xs : List Operand} {tys : Array TypeId} {dT : Tmp}

theorem glv_save1_con {x : Operand} {d : Nat} {g : DG} {s : DS} {t : Tab} {a a5 : Option Addr} {c c5 b2 b3 b5 : Nat}  {F1 : List Res} {F2 : List Res} {F3 : List Res} {F4 : List Res} {F5 : List Res}(hf : ∀ args w, (callFunc 31 args).run Tryz.prog w = .ok (.enter 31 args) w) (hv : opv U x = some (.func (.func 31) #[] #[.pointer (some ⟨b2, 0, none⟩), .pointer (some ⟨b3, 0, none⟩), .pointer (some ⟨b5, 0, none⟩)])) (hx : opvs U xs = some []) [p1 : PkD L d g F1] [p2 : Pk F1 (cl b2 25 [.pointer (some ⟨d, 0, none⟩)]) F2] [p3 : Pk F2 (cl b3 31 (tabC t a c)) F3] [p4 : Pk F3 (cl b5 32 [.slice a5 (putT t).length c5]) F4] [p5 : Pk F4 (trow a5 c5 104 encB (putT t)) F5] (hk : g.Ok) (hs : g.v = s) (hd : Nat.ble (dT + 1) N = true)
    (hr : ∀ (g' : DG), g'.Ok → g'.v = (s.write (t.gen % 2) (putT t)).1 → GL Tryz.prog ops Q rest N ((dT, .int .i64 (s.write (t.gen % 2) (putT t)).2) :: U) w0 L0 (DevR d g' :: cl b2 25 [.pointer (some ⟨d, 0, none⟩)] :: cl b3 31 (tabC t a c) :: cl b5 32 [.slice a5 (putT t).length c5] :: trow a5 c5 104 encB (putT t) :: F5)) : GL Tryz.prog ops Q (⟨some dT, .call ⟨.value x, xs.toArray, tys⟩, ty, pos, after, Option.none⟩ :: rest) N U w0 L0 L :=
  GL.callB (fst := []) (cap := [.pointer (some ⟨b2, 0, none⟩), .pointer (some ⟨b3, 0, none⟩), .pointer (some ⟨b5, 0, none⟩)]) (α := (DG)) (l := [DevR d g, cl b2 25 [.pointer (some ⟨d, 0, none⟩)], cl b3 31 (tabC t a c), cl b5 32 [.slice a5 (putT t).length c5], trow a5 c5 104 encB (putT t)]) (Pv := fun y v => v = .int .i64 (s.write (t.gen % 2) (putT t)).2 ∧ y.Ok ∧ y.v = (s.write (t.gen % 2) (putT t)).1) (l' := fun y => [DevR d y, cl b2 25 [.pointer (some ⟨d, 0, none⟩)], cl b3 31 (tabC t a c), cl b5 32 [.slice a5 (putT t).length c5], trow a5 c5 104 encB (putT t)]) hf hv hx (((((((((p5.out).cons _).trans p4.out).cons _).trans p3.out).cons _).trans p2.out).cons _).trans p1.out)
    (fun w hT => by
      have hT1 : Tr w0 L0 w ([DevR d g, cl b2 25 [.pointer (some ⟨d, 0, none⟩)], cl b3 31 (tabC t a c), cl b5 32 [.slice a5 (putT t).length c5], trow a5 c5 104 encB (putT t)] ++ F5) := hT.sub (((((((((p5.out).cons _).trans p4.out).cons _).trans p3.out).cons _).trans p2.out).cons _).trans p1.out); have hd0 := Disj.left hT1.disj; have ho0 := fun r hr => hT1.ok r (List.mem_append_left _ hr); exact (save1_con hk hs hd0 ho0).mono fun e w' ⟨g', h1, g0, g1, h2⟩ => ⟨(g'), _, h1, ⟨rfl, g0, g1⟩, h2⟩) hd fun y v hv0 => by obtain ⟨rfl, g0, g1⟩ := hv0; exact hr y g0 g1

end

def fns (d b2 b3 b5 : Nat) : List {v : Value // v.oneCell' = true} := [⟨.func (.func 30) #[.pointer (some ⟨d, 0, none⟩)] #[], rfl⟩, ⟨.func (.func 31) #[] #[.pointer (some ⟨b2, 0, none⟩), .pointer (some ⟨b3, 0, none⟩), .pointer (some ⟨b5, 0, none⟩)], rfl⟩, ⟨.func (.func 30) #[.pointer (some ⟨d, 0, none⟩)] #[], rfl⟩]
theorem sl89 : K.slOf Tryz.prog 89 = some (66, 1) := by kernel_rfl
/- turntable/super.turns -/
set_option maxHeartbeats 1000000 in
set_option maxRecDepth 100000 in
theorem turns_con {d : Nat} {g : DG} {s : DS} {t : Tab} {a a5 : Option Addr} {c c5 b2 b3 b5 : Nat} {a16 : Option Addr} {c16 : Nat} {w : World} (hk : g.Ok) (hs : g.v = s) [Old w [DevR d g, cl b2 25 [.pointer (some ⟨d, 0, none⟩)], cl b3 31 (tabC t a c), cl b5 32 [.slice a5 (putT t).length c5], trow a5 c5 104 encB (putT t)] a16 (K.encV) (fns d b2 b3 b5)] (hd : Disj [DevR d g, cl b2 25 [.pointer (some ⟨d, 0, none⟩)], cl b3 31 (tabC t a c), cl b5 32 [.slice a5 (putT t).length c5], trow a5 c5 104 encB (putT t)]) (ho : ∀ r ∈ ([DevR d g, cl b2 25 [.pointer (some ⟨d, 0, none⟩)], cl b3 31 (tabC t a c), cl b5 32 [.slice a5 (putT t).length c5], trow a5 c5 104 encB (putT t)] : List Res), r.ok w.heap) :
    Calls Tryz.prog 29 #[.slice a16 3 c16] w fun e w' => ∃ g' : DG, e = .returned (.int .i64 (s.save3 t).2) ∧ g'.Ok ∧ g'.v = (s.save3 t).1 ∧ Tr w [DevR d g, cl b2 25 [.pointer (some ⟨d, 0, none⟩)], cl b3 31 (tabC t a c), cl b5 32 [.slice a5 (putT t).length c5], trow a5 c5 104 encB (putT t)] w' [DevR d g', cl b2 25 [.pointer (some ⟨d, 0, none⟩)], cl b3 31 (tabC t a c), cl b5 32 [.slice a5 (putT t).length c5], trow a5 c5 104 encB (putT t)] := by
  refine K.enter (args := [_]) Tryz.func29 rfl Tryz.ntmps29 rfl hd ho ?_
  refine K.GC.seq ?_
  refine K.GC.region ?_
  refine K.GL.det (K.e_assign rfl) rfl ?_
  refine K.GL.nil ?_
  refine K.GQ.go ?_
  refine K.GC.seq ?_
  refine K.GC.seq ?_
  refine K.GC.region ?_
  refine K.GL.det (K.e_move rfl) rfl ?_
  refine K.GL.det (K.e_len Tryz.underlying89 rfl) rfl ?_
  refine K.GL.det (K.e_move rfl) rfl ?_
  refine K.GL.nil ?_
  refine K.GQ.go ?_
  refine K.GC.block ?_
  refine K.GC.rounds 4 ?_
  refine K.GR.keep [2, 4, 5, 6, 7, 8, 9, 10, 11, 12, 13, 14, 15, 16, 17] rfl ?_
  refine K.GR.succ ?_
  refine K.GC.seq ?_
  refine K.GC.region ?_
  first | refine K.GL.det ((K.e_lt rfl rfl).yes (by first | omega | assumption | decide +kernel)) rfl ?_ | refine K.GL.det ((K.e_lt rfl rfl).no (by first | omega | assumption | decide +kernel)) rfl ?_ | refine K.GL.det (K.e_lt rfl rfl) rfl ?_
  refine K.GL.nil ?_
  refine K.GQ.go ?_
  refine K.GC.seq ?_
  refine K.GC.condB rfl (fun h1 => ?_) (fun h1 => ?_)
  · first
    | exact absurd h1 (by decide)
    | try replace h1 := of_decide_eq_true h1
      refine K.GC.skip ?_
      refine K.GQ.go ?_
      refine K.GC.seq ?_
      refine K.GC.block ?_
      refine K.GC.seq ?_
      refine K.GC.region ?_
      refine K.GL.ixKI (l := fns d b2 b3 b5) sl89 rfl rfl rfl rfl (by decide) rfl rfl ?_
      refine K.GL.det (K.e_ldE (l := fns d b2 b3 b5) Tryz.isAgg66 rfl rfl rfl rfl) rfl ?_
      refine K.GL.det (K.e_assign rfl) rfl ?_
      refine K.GL.nil ?_
      refine K.GQ.go ?_
      refine K.GC.seq ?_
      refine K.GC.region ?_
      refine K.GL.det (K.e_move rfl) rfl ?_
      first
        | refine glv_dflush_con Tryz.call30 rfl rfl hk hs rfl (fun g1 hk1 hv1 => ?_)
        | refine glv_save1_con (d := d) (t := t) (a := a) (a5 := a5) (c := c) (c5 := c5) (b2 := b2) (b3 := b3) (b5 := b5) Tryz.call31 rfl rfl hk1 hv1 rfl (fun g2 hk2 hv2 => ?_)
        | refine glv_dflush_con Tryz.call30 rfl rfl hk2 hv2 rfl (fun g3 hk3 hv3 => ?_)
      refine K.GL.det (K.e_assign rfl) rfl ?_
      refine K.GL.nil ?_
      refine K.GQ.go ?_
      refine K.GC.seq ?_
      refine K.GC.region ?_
      refine K.GL.det (K.e_move rfl) rfl ?_
      first | refine K.GL.det ((K.e_ne rfl rfl).yes (by first | omega | assumption | decide +kernel)) rfl ?_ | refine K.GL.det ((K.e_ne rfl rfl).no (by first | omega | assumption | decide +kernel)) rfl ?_ | refine K.GL.det (K.e_ne rfl rfl) rfl ?_
      refine K.GL.nil ?_
      refine K.GQ.go ?_
      refine K.GC.condB rfl (fun h2 => ?_) (fun h2 => ?_)
      · first
        | exact absurd h2 (by decide)
        | try replace h2 := of_decide_eq_true h2
          refine K.GC.seq ?_
          refine K.GC.region ?_
          refine K.GL.det (K.e_move rfl) rfl ?_
          refine K.GL.det (K.e_assign rfl) rfl ?_
          refine K.GL.nil ?_
          refine K.GQ.go ?_
          refine K.GC.ret ?_
          refine K.GQ.block_ret ?_
          refine K.GQ.then_ret ?_
          refine K.GQ.then_ret ?_
          refine K.GQ.block_ret ?_
          refine K.GQ.then_ret ?_
          refine K.GQ.ret1 Tryz.results29 rfl (fun w hT => ?_)
          first
            | (have hsv : s.save3 t = (s.flush.1.write (t.gen % 2) (putT t)).1.flush := by unfold DS.save3; rw [if_neg (by assumption), if_neg (by assumption)]
               rw [hsv]
               first
               | exact ⟨g3, rfl, hk3, hv3, hT⟩
               | exact ⟨g3, by rw [Classical.not_not.1 (by assumption : ¬ (s.flush.1.write (t.gen % 2) (putT t)).1.flush.2 ≠ 0)], hk3, hv3, hT⟩)
            | (have hsv : s.save3 t = s.flush.1.write (t.gen % 2) (putT t) := by unfold DS.save3; rw [if_neg (by assumption), if_pos (by assumption)]
               rw [hsv]
               exact ⟨g2, rfl, hk2, hv2, hT⟩)
            | (have hsv : s.save3 t = s.flush := by unfold DS.save3; rw [if_pos (by assumption)]
               rw [hsv]
               exact ⟨g1, rfl, hk1, hv1, hT⟩)
      · first
        | exact absurd h2 (by decide)
        | try replace h2 := of_decide_eq_false h2
          refine K.GC.skip ?_
          refine K.GQ.block_normal ?_
          refine K.GQ.go ?_
          refine K.GC.region ?_
          first | refine K.GL.det (K.e_add rfl rfl ⟨by omega, by omega⟩) rfl ?_ | refine K.GL.det (K.e_addw rfl rfl) rfl ?_
          refine K.GL.det (K.e_move rfl) rfl ?_
          refine K.GL.nil ?_
          refine K.GQ.again ?_
          refine K.GR.keep [2, 4, 5, 6, 7, 8, 9, 10, 11, 12, 13, 14, 15, 16, 17] rfl ?_
          refine K.GR.succ ?_
          refine K.GC.seq ?_
          refine K.GC.region ?_
          first | refine K.GL.det ((K.e_lt rfl rfl).yes (by first | omega | assumption | decide +kernel)) rfl ?_ | refine K.GL.det ((K.e_lt rfl rfl).no (by first | omega | assumption | decide +kernel)) rfl ?_ | refine K.GL.det (K.e_lt rfl rfl) rfl ?_
          refine K.GL.nil ?_
          refine K.GQ.go ?_
          refine K.GC.seq ?_
          refine K.GC.condB rfl (fun h3 => ?_) (fun h3 => ?_)
          · first
            | exact absurd h3 (by decide)
            | try replace h3 := of_decide_eq_true h3
              refine K.GC.skip ?_
              refine K.GQ.go ?_
              refine K.GC.seq ?_
              refine K.GC.block ?_
              refine K.GC.seq ?_
              refine K.GC.region ?_
              refine K.GL.ixKI (l := fns d b2 b3 b5) sl89 rfl rfl rfl rfl (by decide) rfl rfl ?_
              refine K.GL.det (K.e_ldE (l := fns d b2 b3 b5) Tryz.isAgg66 rfl rfl rfl rfl) rfl ?_
              refine K.GL.det (K.e_assign rfl) rfl ?_
              refine K.GL.nil ?_
              refine K.GQ.go ?_
              refine K.GC.seq ?_
              refine K.GC.region ?_
              refine K.GL.det (K.e_move rfl) rfl ?_
              first
                | refine glv_dflush_con Tryz.call30 rfl rfl hk hs rfl (fun g1 hk1 hv1 => ?_)
                | refine glv_save1_con (d := d) (t := t) (a := a) (a5 := a5) (c := c) (c5 := c5) (b2 := b2) (b3 := b3) (b5 := b5) Tryz.call31 rfl rfl hk1 hv1 rfl (fun g2 hk2 hv2 => ?_)
                | refine glv_dflush_con Tryz.call30 rfl rfl hk2 hv2 rfl (fun g3 hk3 hv3 => ?_)
              refine K.GL.det (K.e_assign rfl) rfl ?_
              refine K.GL.nil ?_
              refine K.GQ.go ?_
              refine K.GC.seq ?_
              refine K.GC.region ?_
              refine K.GL.det (K.e_move rfl) rfl ?_
              first | refine K.GL.det ((K.e_ne rfl rfl).yes (by first | omega | assumption | decide +kernel)) rfl ?_ | refine K.GL.det ((K.e_ne rfl rfl).no (by first | omega | assumption | decide +kernel)) rfl ?_ | refine K.GL.det (K.e_ne rfl rfl) rfl ?_
              refine K.GL.nil ?_
              refine K.GQ.go ?_
              refine K.GC.condB rfl (fun h4 => ?_) (fun h4 => ?_)
              · first
                | exact absurd h4 (by decide)
                | try replace h4 := of_decide_eq_true h4
                  refine K.GC.seq ?_
                  refine K.GC.region ?_
                  refine K.GL.det (K.e_move rfl) rfl ?_
                  refine K.GL.det (K.e_assign rfl) rfl ?_
                  refine K.GL.nil ?_
                  refine K.GQ.go ?_
                  refine K.GC.ret ?_
                  refine K.GQ.block_ret ?_
                  refine K.GQ.then_ret ?_
                  refine K.GQ.then_ret ?_
                  refine K.GQ.block_ret ?_
                  refine K.GQ.then_ret ?_
                  refine K.GQ.ret1 Tryz.results29 rfl (fun w hT => ?_)
                  first
                    | (have hsv : s.save3 t = (s.flush.1.write (t.gen % 2) (putT t)).1.flush := by unfold DS.save3; rw [if_neg (by assumption), if_neg (by assumption)]
                       rw [hsv]
                       first
                       | exact ⟨g3, rfl, hk3, hv3, hT⟩
                       | exact ⟨g3, by rw [Classical.not_not.1 (by assumption : ¬ (s.flush.1.write (t.gen % 2) (putT t)).1.flush.2 ≠ 0)], hk3, hv3, hT⟩)
                    | (have hsv : s.save3 t = s.flush.1.write (t.gen % 2) (putT t) := by unfold DS.save3; rw [if_neg (by assumption), if_pos (by assumption)]
                       rw [hsv]
                       exact ⟨g2, rfl, hk2, hv2, hT⟩)
                    | (have hsv : s.save3 t = s.flush := by unfold DS.save3; rw [if_pos (by assumption)]
                       rw [hsv]
                       exact ⟨g1, rfl, hk1, hv1, hT⟩)
              · first
                | exact absurd h4 (by decide)
                | try replace h4 := of_decide_eq_false h4
                  refine K.GC.skip ?_
                  refine K.GQ.block_normal ?_
                  refine K.GQ.go ?_
                  refine K.GC.region ?_
                  first | refine K.GL.det (K.e_add rfl rfl ⟨by omega, by omega⟩) rfl ?_ | refine K.GL.det (K.e_addw rfl rfl) rfl ?_
                  refine K.GL.det (K.e_move rfl) rfl ?_
                  refine K.GL.nil ?_
                  refine K.GQ.again ?_
                  refine K.GR.keep [2, 4, 5, 6, 7, 8, 9, 10, 11, 12, 13, 14, 15, 16, 17] rfl ?_
                  refine K.GR.succ ?_
                  refine K.GC.seq ?_
                  refine K.GC.region ?_
                  first | refine K.GL.det ((K.e_lt rfl rfl).yes (by first | omega | assumption | decide +kernel)) rfl ?_ | refine K.GL.det ((K.e_lt rfl rfl).no (by first | omega | assumption | decide +kernel)) rfl ?_ | refine K.GL.det (K.e_lt rfl rfl) rfl ?_
                  refine K.GL.nil ?_
                  refine K.GQ.go ?_
                  refine K.GC.seq ?_
                  refine K.GC.condB rfl (fun h5 => ?_) (fun h5 => ?_)
                  · first
                    | exact absurd h5 (by decide)
                    | try replace h5 := of_decide_eq_true h5
                      refine K.GC.skip ?_
                      refine K.GQ.go ?_
                      refine K.GC.seq ?_
                      refine K.GC.block ?_
                      refine K.GC.seq ?_
                      refine K.GC.region ?_
                      refine K.GL.ixKI (l := fns d b2 b3 b5) sl89 rfl rfl rfl rfl (by decide) rfl rfl ?_
                      refine K.GL.det (K.e_ldE (l := fns d b2 b3 b5) Tryz.isAgg66 rfl rfl rfl rfl) rfl ?_
                      refine K.GL.det (K.e_assign rfl) rfl ?_
                      refine K.GL.nil ?_
                      refine K.GQ.go ?_
                      refine K.GC.seq ?_
                      refine K.GC.region ?_
                      refine K.GL.det (K.e_move rfl) rfl ?_
                      first
                        | refine glv_dflush_con Tryz.call30 rfl rfl hk hs rfl (fun g1 hk1 hv1 => ?_)
                        | refine glv_save1_con (d := d) (t := t) (a := a) (a5 := a5) (c := c) (c5 := c5) (b2 := b2) (b3 := b3) (b5 := b5) Tryz.call31 rfl rfl hk1 hv1 rfl (fun g2 hk2 hv2 => ?_)
                        | refine glv_dflush_con Tryz.call30 rfl rfl hk2 hv2 rfl (fun g3 hk3 hv3 => ?_)
                      refine K.GL.det (K.e_assign rfl) rfl ?_
                      refine K.GL.nil ?_
                      refine K.GQ.go ?_
                      refine K.GC.seq ?_
                      refine K.GC.region ?_
                      refine K.GL.det (K.e_move rfl) rfl ?_
                      first | refine K.GL.det ((K.e_ne rfl rfl).yes (by first | omega | assumption | decide +kernel)) rfl ?_ | refine K.GL.det ((K.e_ne rfl rfl).no (by first | omega | assumption | decide +kernel)) rfl ?_ | refine K.GL.det (K.e_ne rfl rfl) rfl ?_
                      refine K.GL.nil ?_
                      refine K.GQ.go ?_
                      refine K.GC.condB rfl (fun h6 => ?_) (fun h6 => ?_)
                      · first
                        | exact absurd h6 (by decide)
                        | try replace h6 := of_decide_eq_true h6
                          refine K.GC.seq ?_
                          refine K.GC.region ?_
                          refine K.GL.det (K.e_move rfl) rfl ?_
                          refine K.GL.det (K.e_assign rfl) rfl ?_
                          refine K.GL.nil ?_
                          refine K.GQ.go ?_
                          refine K.GC.ret ?_
                          refine K.GQ.block_ret ?_
                          refine K.GQ.then_ret ?_
                          refine K.GQ.then_ret ?_
                          refine K.GQ.block_ret ?_
                          refine K.GQ.then_ret ?_
                          refine K.GQ.ret1 Tryz.results29 rfl (fun w hT => ?_)
                          first
                            | (have hsv : s.save3 t = (s.flush.1.write (t.gen % 2) (putT t)).1.flush := by unfold DS.save3; rw [if_neg (by assumption), if_neg (by assumption)]
                               rw [hsv]
                               first
                               | exact ⟨g3, rfl, hk3, hv3, hT⟩
                               | exact ⟨g3, by rw [Classical.not_not.1 (by assumption : ¬ (s.flush.1.write (t.gen % 2) (putT t)).1.flush.2 ≠ 0)], hk3, hv3, hT⟩)
                            | (have hsv : s.save3 t = s.flush.1.write (t.gen % 2) (putT t) := by unfold DS.save3; rw [if_neg (by assumption), if_pos (by assumption)]
                               rw [hsv]
                               exact ⟨g2, rfl, hk2, hv2, hT⟩)
                            | (have hsv : s.save3 t = s.flush := by unfold DS.save3; rw [if_pos (by assumption)]
                               rw [hsv]
                               exact ⟨g1, rfl, hk1, hv1, hT⟩)
                      · first
                        | exact absurd h6 (by decide)
                        | try replace h6 := of_decide_eq_false h6
                          refine K.GC.skip ?_
                          refine K.GQ.block_normal ?_
                          refine K.GQ.go ?_
                          refine K.GC.region ?_
                          first | refine K.GL.det (K.e_add rfl rfl ⟨by omega, by omega⟩) rfl ?_ | refine K.GL.det (K.e_addw rfl rfl) rfl ?_
                          refine K.GL.det (K.e_move rfl) rfl ?_
                          refine K.GL.nil ?_
                          refine K.GQ.again ?_
                          refine K.GR.keep [2, 4, 5, 6, 7, 8, 9, 10, 11, 12, 13, 14, 15, 16, 17] rfl ?_
                          refine K.GR.succ ?_
                          refine K.GC.seq ?_
                          refine K.GC.region ?_
                          first | refine K.GL.det ((K.e_lt rfl rfl).yes (by first | omega | assumption | decide +kernel)) rfl ?_ | refine K.GL.det ((K.e_lt rfl rfl).no (by first | omega | assumption | decide +kernel)) rfl ?_ | refine K.GL.det (K.e_lt rfl rfl) rfl ?_
                          refine K.GL.nil ?_
                          refine K.GQ.go ?_
                          refine K.GC.seq ?_
                          refine K.GC.condB rfl (fun h7 => ?_) (fun h7 => ?_)
                          · first
                            | exact absurd h7 (by decide)
                            | try replace h7 := of_decide_eq_true h7
                              refine K.GC.skip ?_
                              refine K.GQ.go ?_
                              refine K.GC.seq ?_
                              refine K.GC.block ?_
                              refine K.GC.seq ?_
                              refine K.GC.region ?_
                              refine K.GL.ixKI (l := fns d b2 b3 b5) sl89 rfl rfl rfl rfl (by decide) rfl rfl ?_
                              refine K.GL.det (K.e_ldE (l := fns d b2 b3 b5) Tryz.isAgg66 rfl rfl rfl rfl) rfl ?_
                              refine K.GL.det (K.e_assign rfl) rfl ?_
                              refine K.GL.nil ?_
                              refine K.GQ.go ?_
                              refine K.GC.seq ?_
                              refine K.GC.region ?_
                              refine K.GL.det (K.e_move rfl) rfl ?_
                              first
                                | refine glv_dflush_con Tryz.call30 rfl rfl hk hs rfl (fun g1 hk1 hv1 => ?_)
                                | refine glv_save1_con (d := d) (t := t) (a := a) (a5 := a5) (c := c) (c5 := c5) (b2 := b2) (b3 := b3) (b5 := b5) Tryz.call31 rfl rfl hk1 hv1 rfl (fun g2 hk2 hv2 => ?_)
                                | refine glv_dflush_con Tryz.call30 rfl rfl hk2 hv2 rfl (fun g3 hk3 hv3 => ?_)
                              refine K.GL.det (K.e_assign rfl) rfl ?_
                              refine K.GL.nil ?_
                              refine K.GQ.go ?_
                              refine K.GC.seq ?_
                              refine K.GC.region ?_
                              refine K.GL.det (K.e_move rfl) rfl ?_
                              first | refine K.GL.det ((K.e_ne rfl rfl).yes (by first | omega | assumption | decide +kernel)) rfl ?_ | refine K.GL.det ((K.e_ne rfl rfl).no (by first | omega | assumption | decide +kernel)) rfl ?_ | refine K.GL.det (K.e_ne rfl rfl) rfl ?_
                              refine K.GL.nil ?_
                              refine K.GQ.go ?_
                              refine K.GC.condB rfl (fun h8 => ?_) (fun h8 => ?_)
                              · first
                                | exact absurd h8 (by decide)
                                | try replace h8 := of_decide_eq_true h8
                                  refine K.GC.seq ?_
                                  refine K.GC.region ?_
                                  refine K.GL.det (K.e_move rfl) rfl ?_
                                  refine K.GL.det (K.e_assign rfl) rfl ?_
                                  refine K.GL.nil ?_
                                  refine K.GQ.go ?_
                                  refine K.GC.ret ?_
                                  refine K.GQ.block_ret ?_
                                  refine K.GQ.then_ret ?_
                                  refine K.GQ.then_ret ?_
                                  refine K.GQ.block_ret ?_
                                  refine K.GQ.then_ret ?_
                                  refine K.GQ.ret1 Tryz.results29 rfl (fun w hT => ?_)
                                  first
                                    | (have hsv : s.save3 t = (s.flush.1.write (t.gen % 2) (putT t)).1.flush := by unfold DS.save3; rw [if_neg (by assumption), if_neg (by assumption)]
                                       rw [hsv]
                                       first
                                       | exact ⟨g3, rfl, hk3, hv3, hT⟩
                                       | exact ⟨g3, by rw [Classical.not_not.1 (by assumption : ¬ (s.flush.1.write (t.gen % 2) (putT t)).1.flush.2 ≠ 0)], hk3, hv3, hT⟩)
                                    | (have hsv : s.save3 t = s.flush.1.write (t.gen % 2) (putT t) := by unfold DS.save3; rw [if_neg (by assumption), if_pos (by assumption)]
                                       rw [hsv]
                                       exact ⟨g2, rfl, hk2, hv2, hT⟩)
                                    | (have hsv : s.save3 t = s.flush := by unfold DS.save3; rw [if_pos (by assumption)]
                                       rw [hsv]
                                       exact ⟨g1, rfl, hk1, hv1, hT⟩)
                              · first
                                | exact absurd h8 (by decide)
                                | try replace h8 := of_decide_eq_false h8
                                  refine K.GC.skip ?_
                                  refine K.GQ.block_normal ?_
                                  refine K.GQ.go ?_
                                  refine K.GC.region ?_
                                  first | refine K.GL.det (K.e_add rfl rfl ⟨by omega, by omega⟩) rfl ?_ | refine K.GL.det (K.e_addw rfl rfl) rfl ?_
                                  refine K.GL.det (K.e_move rfl) rfl ?_
                                  refine K.GL.nil ?_
                                  refine K.GQ.again ?_
                                  exfalso; omega
                          · first
                            | exact absurd h7 (by decide)
                            | try replace h7 := of_decide_eq_false h7
                              refine K.GC.exit ?_
                              refine K.GQ.then_exit ?_
                              refine K.GQ.then_exit ?_
                              refine K.GQ.block_hit ?_
                              refine K.GQ.go ?_
                              refine K.GC.seq ?_
                              refine K.GC.region ?_
                              refine K.GL.det (K.e_assign rfl) rfl ?_
                              refine K.GL.nil ?_
                              refine K.GQ.go ?_
                              refine K.GC.ret ?_
                              refine K.GQ.ret1 Tryz.results29 rfl (fun w hT => ?_)
                              first
                                | (have hsv : s.save3 t = (s.flush.1.write (t.gen % 2) (putT t)).1.flush := by unfold DS.save3; rw [if_neg (by assumption), if_neg (by assumption)]
                                   rw [hsv]
                                   first
                                   | exact ⟨g3, rfl, hk3, hv3, hT⟩
                                   | exact ⟨g3, by rw [Classical.not_not.1 (by assumption : ¬ (s.flush.1.write (t.gen % 2) (putT t)).1.flush.2 ≠ 0)], hk3, hv3, hT⟩)
                                | (have hsv : s.save3 t = s.flush.1.write (t.gen % 2) (putT t) := by unfold DS.save3; rw [if_neg (by assumption), if_pos (by assumption)]
                                   rw [hsv]
                                   exact ⟨g2, rfl, hk2, hv2, hT⟩)
                                | (have hsv : s.save3 t = s.flush := by unfold DS.save3; rw [if_pos (by assumption)]
                                   rw [hsv]
                                   exact ⟨g1, rfl, hk1, hv1, hT⟩)
                  · first
                    | exact absurd h5 (by decide)
                    | try replace h5 := of_decide_eq_false h5
                      refine K.GC.exit ?_
                      refine K.GQ.then_exit ?_
                      refine K.GQ.then_exit ?_
                      refine K.GQ.block_hit ?_
                      refine K.GQ.go ?_
                      refine K.GC.seq ?_
                      refine K.GC.region ?_
                      refine K.GL.det (K.e_assign rfl) rfl ?_
                      refine K.GL.nil ?_
                      refine K.GQ.go ?_
                      refine K.GC.ret ?_
                      refine K.GQ.ret1 Tryz.results29 rfl (fun w hT => ?_)
                      first
                        | (have hsv : s.save3 t = (s.flush.1.write (t.gen % 2) (putT t)).1.flush := by unfold DS.save3; rw [if_neg (by assumption), if_neg (by assumption)]
                           rw [hsv]
                           first
                           | exact ⟨g3, rfl, hk3, hv3, hT⟩
                           | exact ⟨g3, by rw [Classical.not_not.1 (by assumption : ¬ (s.flush.1.write (t.gen % 2) (putT t)).1.flush.2 ≠ 0)], hk3, hv3, hT⟩)
                        | (have hsv : s.save3 t = s.flush.1.write (t.gen % 2) (putT t) := by unfold DS.save3; rw [if_neg (by assumption), if_pos (by assumption)]
                           rw [hsv]
                           exact ⟨g2, rfl, hk2, hv2, hT⟩)
                        | (have hsv : s.save3 t = s.flush := by unfold DS.save3; rw [if_pos (by assumption)]
                           rw [hsv]
                           exact ⟨g1, rfl, hk1, hv1, hT⟩)
          · first
            | exact absurd h3 (by decide)
            | try replace h3 := of_decide_eq_false h3
              refine K.GC.exit ?_
              refine K.GQ.then_exit ?_
              refine K.GQ.then_exit ?_
              refine K.GQ.block_hit ?_
              refine K.GQ.go ?_
              refine K.GC.seq ?_
              refine K.GC.region ?_
              refine K.GL.det (K.e_assign rfl) rfl ?_
              refine K.GL.nil ?_
              refine K.GQ.go ?_
              refine K.GC.ret ?_
              refine K.GQ.ret1 Tryz.results29 rfl (fun w hT => ?_)
              first
                | (have hsv : s.save3 t = (s.flush.1.write (t.gen % 2) (putT t)).1.flush := by unfold DS.save3; rw [if_neg (by assumption), if_neg (by assumption)]
                   rw [hsv]
                   first
                   | exact ⟨g3, rfl, hk3, hv3, hT⟩
                   | exact ⟨g3, by rw [Classical.not_not.1 (by assumption : ¬ (s.flush.1.write (t.gen % 2) (putT t)).1.flush.2 ≠ 0)], hk3, hv3, hT⟩)
                | (have hsv : s.save3 t = s.flush.1.write (t.gen % 2) (putT t) := by unfold DS.save3; rw [if_neg (by assumption), if_pos (by assumption)]
                   rw [hsv]
                   exact ⟨g2, rfl, hk2, hv2, hT⟩)
                | (have hsv : s.save3 t = s.flush := by unfold DS.save3; rw [if_pos (by assumption)]
                   rw [hsv]
                   exact ⟨g1, rfl, hk1, hv1, hT⟩)
  · first
    | exact absurd h1 (by decide)
    | try replace h1 := of_decide_eq_false h1
      refine K.GC.exit ?_
      refine K.GQ.then_exit ?_
      refine K.GQ.then_exit ?_
      refine K.GQ.block_hit ?_
      refine K.GQ.go ?_
      refine K.GC.seq ?_
      refine K.GC.region ?_
      refine K.GL.det (K.e_assign rfl) rfl ?_
      refine K.GL.nil ?_
      refine K.GQ.go ?_
      refine K.GC.ret ?_
      refine K.GQ.ret1 Tryz.results29 rfl (fun w hT => ?_)
      first
        | (have hsv : s.save3 t = (s.flush.1.write (t.gen % 2) (putT t)).1.flush := by unfold DS.save3; rw [if_neg (by assumption), if_neg (by assumption)]
           rw [hsv]
           first
           | exact ⟨g3, rfl, hk3, hv3, hT⟩
           | exact ⟨g3, by rw [Classical.not_not.1 (by assumption : ¬ (s.flush.1.write (t.gen % 2) (putT t)).1.flush.2 ≠ 0)], hk3, hv3, hT⟩)
        | (have hsv : s.save3 t = s.flush.1.write (t.gen % 2) (putT t) := by unfold DS.save3; rw [if_neg (by assumption), if_pos (by assumption)]
           rw [hsv]
           exact ⟨g2, rfl, hk2, hv2, hT⟩)
        | (have hsv : s.save3 t = s.flush := by unfold DS.save3; rw [if_pos (by assumption)]
           rw [hsv]
           exact ⟨g1, rfl, hk1, hv1, hT⟩)
section
variable {ops : Array Oper} {Q : Exit → Act → World → Prop} {N : Nat} {U : Env} {w0 : World} {L0 L F : List Res} {ty : TypeId} {rest : List Oper} {pos : String} {after : Array Edge} {xs : List Operand} {tys : Array TypeId} {dT : Tmp}
theorem gl_turns_con {d : Nat} {g : DG} {s : DS} {t : Tab} {a a5 : Option Addr} {c c5 b2 b3 b5 : Nat} {a16 : Option Addr} {c16 : Nat}  {F1 : List Res} {F2 : List Res} {F3 : List Res} {F4 : List Res} {F5 : List Res}(hf : ∀ args w, (callFunc 29 args).run Tryz.prog w = .ok (.enter 29 args) w) (hx : opvs U xs = some [.slice a16 3 c16]) [p1 : PkD L d g F1] [p2 : Pk F1 (cl b2 25 [.pointer (some ⟨d, 0, none⟩)]) F2] [p3 : Pk F2 (cl b3 31 (tabC t a c)) F3] [p4 : Pk F3 (cl b5 32 [.slice a5 (putT t).length c5]) F4] [p5 : Pk F4 (trow a5 c5 104 encB (putT t)) F5] (hk : g.Ok) (hs : g.v = s) [o0 : RdC w0 L0 [DevR d g, cl b2 25 [.pointer (some ⟨d, 0, none⟩)], cl b3 31 (tabC t a c), cl b5 32 [.slice a5 (putT t).length c5], trow a5 c5 104 encB (putT t)] F5 a16 (K.encV) (fns d b2 b3 b5)] (hd : Nat.ble (dT + 1) N = true)
    (hr : ∀ (g' : DG), g'.Ok → g'.v = (s.save3 t).1 → GL Tryz.prog ops Q rest N ((dT, .int .i64 (s.save3 t).2) :: U) w0 L0 (DevR d g' :: cl b2 25 [.pointer (some ⟨d, 0, none⟩)] :: cl b3 31 (tabC t a c) :: cl b5 32 [.slice a5 (putT t).length c5] :: trow a5 c5 104 encB (putT t) :: F5)) : GL Tryz.prog ops Q (⟨some dT, .call ⟨.value (.func 29), xs.toArray, tys⟩, ty, pos, after, Option.none⟩ :: rest) N U w0 L0 L :=
  GL.callM (α := (DG)) (l := [DevR d g, cl b2 25 [.pointer (some ⟨d, 0, none⟩)], cl b3 31 (tabC t a c), cl b5 32 [.slice a5 (putT t).length c5], trow a5 c5 104 encB (putT t)]) (Pv := fun y v => v = .int .i64 (s.save3 t).2 ∧ y.Ok ∧ y.v = (s.save3 t).1) (l' := fun y => [DevR d y, cl b2 25 [.pointer (some ⟨d, 0, none⟩)], cl b3 31 (tabC t a c), cl b5 32 [.slice a5 (putT t).length c5], trow a5 c5 104 encB (putT t)]) hf hx (((((((((p5.out).cons _).trans p4.out).cons _).trans p3.out).cons _).trans p2.out).cons _).trans p1.out)
    (fun w hT => by
      have hT1 : Tr w0 L0 w ([DevR d g, cl b2 25 [.pointer (some ⟨d, 0, none⟩)], cl b3 31 (tabC t a c), cl b5 32 [.slice a5 (putT t).length c5], trow a5 c5 104 encB (putT t)] ++ F5) := hT.sub (((((((((p5.out).cons _).trans p4.out).cons _).trans p3.out).cons _).trans p2.out).cons _).trans p1.out); have _o0 := o0.out w hT1; have hd0 := Disj.left hT1.disj; have ho0 := fun r hr => hT1.ok r (List.mem_append_left _ hr); exact (turns_con hk hs hd0 ho0).mono fun e w' ⟨g', h1, g0, g1, h2⟩ => ⟨(g'), _, h1, ⟨rfl, g0, g1⟩, h2⟩) hd fun y v hv => by obtain ⟨rfl, g0, g1⟩ := hv; exact hr y g0 g1
end
theorem mk89 : K.mkOf Tryz.prog 89 = some (66, [.nilFunc], 8) := by kernel_rfl
/- turntable/super.Save -/
set_option maxHeartbeats 1000000 in
set_option maxRecDepth 100000 in
theorem save_con {d : Nat} {g : DG} {s : DS} {t : Tab} {a : Option Addr} {c : Nat} {w : World} (hk : g.Ok) (hs : g.v = s) (hl : t.exts.length ≤ 9223372036854775807) [Old w [DevR d g] a (encX) (t.exts)] (hd : Disj [DevR d g]) (ho : ∀ r ∈ ([DevR d g] : List Res), r.ok w.heap) :
    Calls Tryz.prog 8 #[.pointer (some ⟨d, 0, none⟩), .agg (tabC t a c).toArray] w fun e w' => ∃ g' : DG, e = .returned (.int .i64 (s.save t).2) ∧ g'.Ok ∧ g'.v = (s.save t).1 ∧ Tr w [DevR d g] w' [DevR d g'] := by
  refine K.enter (args := [_, _]) Tryz.func8 rfl Tryz.ntmps8 rfl hd ho ?_
  refine K.GC.seq ?_
  refine K.GC.region ?_
  refine K.GL.box rfl rfl rfl (fun b2 => ?_)
  refine K.GL.box rfl rfl rfl (fun b3 => ?_)
  refine K.GL.det (K.e_assign rfl) rfl ?_
  refine K.GL.nil ?_
  refine K.GQ.go ?_
  refine K.GC.seq ?_
  refine K.GC.region ?_
  first | refine K.GL.det (K.e_ldA Tryz.isAgg31 Tryz.sizeOf31 rfl rfl (by assumption)) rfl ?_ | refine K.GL.det (K.e_ldAF Tryz.isAgg31 Tryz.sizeOf31 rfl rfl (by assumption) rfl) rfl ?_ | refine K.GL.det (K.e_loads Tryz.isAgg31 Tryz.sizeOf31 rfl rfl) rfl ?_
  refine gl_tput_con Tryz.call28 rfl (by first | assumption | omega | rfl | decide) rfl (fun a7 c7 hc7 => ?_)
  refine K.GL.alloc Tryz.zeroValue32 rfl rfl (fun b5 => ?_)
  refine K.GL.store rfl rfl rfl Tryz.sizeOf32 rfl rfl ?_
  refine K.GL.nil ?_
  refine K.GQ.go ?_
  refine K.GC.seq ?_
  refine K.GC.seq ?_
  rcases putT_cases t with ⟨hR, hP, hlen⟩ | ⟨hR, hlen⟩
  all_goals
    refine K.GC.region ?_
    first | refine K.GL.det (K.e_ldE Tryz.isAgg32 rfl rfl (by assumption) rfl) rfl ?_ | refine K.GL.det (K.e_ldF Tryz.isAgg32 rfl rfl (by assumption) rfl) rfl ?_ | refine K.GL.det (K.e_load Tryz.isAgg32 rfl rfl) rfl ?_ | refine K.GL.det (K.e_load0 Tryz.isAgg32 rfl (by assumption)) rfl ?_
    refine K.GL.det (K.e_len Tryz.underlying32 rfl) rfl ?_
    first | refine K.GL.det ((K.e_eq rfl rfl).yes (by first | omega | assumption | decide +kernel)) rfl ?_ | refine K.GL.det ((K.e_eq rfl rfl).no (by first | omega | assumption | decide +kernel)) rfl ?_ | refine K.GL.det (K.e_eq rfl rfl) rfl ?_
    refine K.GL.nil ?_
    refine K.GQ.go ?_
    refine K.GC.condB rfl (fun h1 => ?_) (fun h1 => ?_)
    · first
      | exact absurd h1 (by decide)
      | try replace h1 := of_decide_eq_true h1
        refine K.GC.seq ?_
        refine K.GC.region ?_
        refine K.GL.det (K.e_assign rfl) rfl ?_
        refine K.GL.nil ?_
        refine K.GQ.go ?_
        refine K.GC.ret ?_
        refine K.GQ.then_ret ?_
        refine K.GQ.ret1 Tryz.results8 rfl (fun w hT => ?_)
        first
          | (have hsv : s.save t = s.save3 t := by unfold DS.save; rw [if_pos hR]
             rw [hsv]
             exact ⟨g17, rfl, hk17, hv17, hT.sub K.sb⟩)
          | (have hsv : s.save t = (s, 1) := by unfold DS.save; rw [if_neg (by rw [hR]; decide)]
             rw [hsv]
             exact ⟨g, rfl, hk, hs, hT.sub K.sb⟩)
    · first
      | exact absurd h1 (by decide)
      | try replace h1 := of_decide_eq_false h1
        refine K.GC.skip ?_
        refine K.GQ.go ?_
        refine K.GC.seq ?_
        refine K.GC.region ?_
        first | refine K.GL.det (K.e_ldE Tryz.isAgg25 rfl rfl (by assumption) rfl) rfl ?_ | refine K.GL.det (K.e_ldF Tryz.isAgg25 rfl rfl (by assumption) rfl) rfl ?_ | refine K.GL.det (K.e_load Tryz.isAgg25 rfl rfl) rfl ?_ | refine K.GL.det (K.e_load0 Tryz.isAgg25 rfl (by assumption)) rfl ?_
        refine K.GL.det (K.e_makeFuncB (us := [ptr d]) (vs := []) rfl rfl) rfl ?_
        refine K.GL.det (K.e_makeFuncB (us := []) (vs := [ptr b2, ptr b3, ptr b5]) rfl rfl) rfl ?_
        first | refine K.GL.det (K.e_ldE Tryz.isAgg25 rfl rfl (by assumption) rfl) rfl ?_ | refine K.GL.det (K.e_ldF Tryz.isAgg25 rfl rfl (by assumption) rfl) rfl ?_ | refine K.GL.det (K.e_load Tryz.isAgg25 rfl rfl) rfl ?_ | refine K.GL.det (K.e_load0 Tryz.isAgg25 rfl (by assumption)) rfl ?_
        refine K.GL.det (K.e_makeFuncB (us := [ptr d]) (vs := []) rfl rfl) rfl ?_
        refine K.GL.buildT K.encV (fns d b2 b3 b5) mk89 rfl rfl rfl rfl rfl (fun b16 => ?_)
        refine gl_turns_con (d := d) (t := t) (a := a) (c := c) (a5 := a7) (c5 := c7) (b2 := b2) (b3 := b3) (b5 := b5) Tryz.call29 rfl (by first | assumption | omega | rfl | decide) (by first | assumption | omega | rfl | decide) rfl (fun g17 hk17 hv17 => ?_)
        refine K.GL.det (K.e_assign rfl) rfl ?_
        refine K.GL.nil ?_
        refine K.GQ.go ?_
        refine K.GC.ret ?_
        refine K.GQ.ret1 Tryz.results8 rfl (fun w hT => ?_)
        first
          | (have hsv : s.save t = s.save3 t := by unfold DS.save; rw [if_pos hR]
             rw [hsv]
             exact ⟨g17, rfl, hk17, hv17, hT.sub K.sb⟩)
          | (have hsv : s.save t = (s, 1) := by unfold DS.save; rw [if_neg (by rw [hR]; decide)]
             rw [hsv]
             exact ⟨g, rfl, hk, hs, hT.sub K.sb⟩)
section
variable {ops : Array Oper} {Q : Exit → Act → World → Prop} {N : Nat} {U : Env} {w0 : World} {L0 L F : List Res} {ty : TypeId} {rest : List Oper} {pos : String} {after : Array Edge} {xs : List Operand} {tys : Array TypeId} {dT : Tmp}
theorem gl_save_con {d : Nat} {g : DG} {s : DS} {t : Tab} {a : Option Addr} {c : Nat}  {F1 : List Res}(hf : ∀ args w, (callFunc 8 args).run Tryz.prog w = .ok (.enter 8 args) w) (hx : opvs U xs = some [.pointer (some ⟨d, 0, none⟩), .agg (tabC t a c).toArray]) [p1 : PkD L d g F1] (hk : g.Ok) (hs : g.v = s) (hl : t.exts.length ≤ 9223372036854775807) [o0 : RdC w0 L0 [DevR d g] F1 a (encX) (t.exts)] (hd : Nat.ble (dT + 1) N = true)
    (hr : ∀ (g' : DG), g'.Ok → g'.v = (s.save t).1 → GL Tryz.prog ops Q rest N ((dT, .int .i64 (s.save t).2) :: U) w0 L0 (DevR d g' :: F1)) : GL Tryz.prog ops Q (⟨some dT, .call ⟨.value (.func 8), xs.toArray, tys⟩, ty, pos, after, Option.none⟩ :: rest) N U w0 L0 L :=
  GL.callM (α := (DG)) (l := [DevR d g]) (Pv := fun y v => v = .int .i64 (s.save t).2 ∧ y.Ok ∧ y.v = (s.save t).1) (l' := fun y => [DevR d y]) hf hx (p1.out)
    (fun w hT => by
      have hT1 : Tr w0 L0 w ([DevR d g] ++ F1) := hT.sub (p1.out); have _o0 := o0.out w hT1; have hd0 := Disj.left hT1.disj; have ho0 := fun r hr => hT1.ok r (List.mem_append_left _ hr); exact (save_con hk hs hl hd0 ho0).mono fun e w' ⟨g', h1, g0, g1, h2⟩ => ⟨(g'), _, h1, ⟨rfl, g0, g1⟩, h2⟩) hd fun y v hv => by obtain ⟨rfl, g0, g1⟩ := hv; exact hr y g0 g1
end
/- turntable/super.Load -/
set_option maxHeartbeats 4000000 in
set_option maxRecDepth 100000 in
theorem load_con {d : Nat} {g : DG} {s : DS} {w : World} (hk : g.Ok) (hs : g.v = s) (hd : Disj [DevR d g]) (ho : ∀ r ∈ ([DevR d g] : List Res), r.ok w.heap) :
    Calls Tryz.prog 16 #[.pointer (some ⟨d, 0, none⟩)] w fun e w' => ∃ a' : Option Addr, ∃ c' : Nat, e = .returned (.tuple #[.agg (tabC (s.load).1 a' c').toArray, .bool (s.load).2.1, .int .i64 (s.load).2.2]) ∧ Tr w [DevR d g] w' [trow a' c' 82 encX (s.load).1.exts, DevR d g] := by
  refine K.enter (args := [_]) Tryz.func16 rfl Tryz.ntmps16 rfl hd ho ?_
  refine K.GC.seq ?_
  refine K.GC.region ?_
  refine K.GL.alloc Tryz.zeroValue31 rfl rfl (fun b2 => ?_)
  refine K.GL.det (K.e_assign rfl) rfl ?_
  refine K.GL.det (K.e_assign rfl) rfl ?_
  refine K.GL.nil ?_
  refine K.GQ.go ?_
  refine K.GC.seq ?_
  refine K.GC.region ?_
  refine K.GL.alloc Tryz.zeroValue31 rfl rfl (fun b5 => ?_)
  refine K.GL.nil ?_
  refine K.GQ.go ?_
  refine K.GC.seq ?_
  refine K.GC.seq ?_
  refine K.GC.region ?_
  refine K.GL.det (K.e_move rfl) rfl ?_
  refine K.GL.nil ?_
  refine K.GQ.go ?_
  refine K.GC.block ?_
  refine K.GC.trow0 82 encX ?_
  refine K.GC.loopk (α := Nat × Option Addr × Nat) [0, 2, 5, 46, 47, 48, 49] rfl (fun x => [(11, .int .i64 (x.1 : Int))]) (fun x => [trow x.2.1 x.2.2 82 encX (loadN s x.1).exts, cl b5 31 (tabC (loadN s x.1) x.2.1 x.2.2), cl b2 31 (tabC ⟨0, 0, []⟩ none 0), DevR d g]) (fun x => x.1 ≤ 2 ∧ ∀ y : Nat, y < x.1 → (s.read (y : Int)).2 = 0) (fun x => (2 - x.1)) (0, none, 0) ⟨Nat.zero_le _, fun y h => absurd h (by simp)⟩ (by first | ((repeat refine ⟨rfl, ?_⟩); exact trivial) | (simp only [List.take_zero, List.map_nil, List.flatMap_nil, List.append_nil]; (repeat refine ⟨rfl, ?_⟩); exact trivial)) (K.Sub.refl _) (fun x hI => ?_)
  obtain ⟨x, a1, c1⟩ := x
  simp only at hI ⊢
  obtain ⟨hI, hI2⟩ := hI
  refine K.GC.seq ?_
  refine K.GC.region ?_
  first | refine K.GL.det ((K.e_lt rfl rfl).yes (by first | omega | assumption | decide +kernel)) rfl ?_ | refine K.GL.det ((K.e_lt rfl rfl).no (by first | omega | assumption | decide +kernel)) rfl ?_ | refine K.GL.det (K.e_lt rfl rfl) rfl ?_
  refine K.GL.nil ?_
  refine K.GQ.go ?_
  refine K.GC.seq ?_
  refine K.GC.condB rfl (fun h1 => ?_) (fun h1 => ?_)
  · first
    | exact absurd h1 (by decide)
    | try replace h1 := of_decide_eq_true h1
      refine K.GC.skip ?_
      refine K.GQ.go ?_
      refine K.GC.seq ?_
      refine K.GC.block ?_
      refine K.GC.seq ?_
      refine K.GC.region ?_
      refine K.GL.det (K.e_move rfl) rfl ?_
      refine K.GL.det (K.e_assign rfl) rfl ?_
      refine K.GL.nil ?_
      refine K.GQ.go ?_
      refine K.GC.seq ?_
      refine K.GC.region ?_
      refine K.GL.det (K.e_move rfl) rfl ?_
      refine K.GL.det (K.e_move rfl) rfl ?_
      refine gl_dread_con Tryz.call41 rfl (by first | assumption | omega | rfl | decide) (by first | assumption | omega | rfl | decide) rfl (fun a17 c17 => ?_)
      refine K.GL.det (K.e_move rfl) rfl ?_
      refine K.GL.det (K.e_extract rfl rfl) rfl ?_
      refine K.GL.det (K.e_extract rfl rfl) rfl ?_
      refine K.GL.det (K.e_assign rfl) rfl ?_
      refine K.GL.det (K.e_assign rfl) rfl ?_
      refine K.GL.nil ?_
      refine K.GQ.go ?_
      refine K.GC.seq ?_
      refine K.GC.seq ?_
      have hrl := read_len s (x : Int)
      refine K.GC.capT a17 (fun hcap => ?_)
      refine K.GC.region ?_
      refine K.GL.det (K.e_move rfl) rfl ?_
      first | refine K.GL.det ((K.e_ne rfl rfl).yes (by first | omega | assumption | decide +kernel)) rfl ?_ | refine K.GL.det ((K.e_ne rfl rfl).no (by first | omega | assumption | decide +kernel)) rfl ?_ | refine K.GL.det (K.e_ne rfl rfl) rfl ?_
      refine K.GL.nil ?_
      refine K.GQ.go ?_
      refine K.GC.condB rfl (fun h2 => ?_) (fun h2 => ?_)
      · first
        | exact absurd h2 (by decide)
        | try replace h2 := of_decide_eq_true h2
          refine K.GC.seq ?_
          refine K.GC.region ?_
          refine K.GL.det (K.e_build lay31 rfl) rfl ?_
          refine K.GL.det (K.e_move rfl) rfl ?_
          refine K.GL.storeP (vs := tabC ⟨0, 0, []⟩ none 0) (cs' := tabC ⟨0, 0, []⟩ none 0) rfl rfl rfl Tryz.sizeOf31 rfl rfl (by exact spliceO_all rfl) ?_
          refine K.GL.det (K.e_assign rfl) rfl ?_
          refine K.GL.det (K.e_assign rfl) rfl ?_
          refine K.GL.nil ?_
          refine K.GQ.go ?_
          refine K.GC.ret ?_
          refine K.GQ.then_ret ?_
          refine K.GQ.block_ret ?_
          refine K.GQ.then_ret ?_
          refine K.GQ.then_ret ?_
          refine K.GQ.block_ret ?_
          refine K.GQ.then_ret ?_
          refine K.GQ.ret_ctt Tryz.results16 Tryz.isAgg31 Tryz.sizeOf31 rfl rfl rfl rfl (fun w hT => ?_)
          first
            | (have hsl := load_bad (s := s) (x := x) (by omega) hI2 (by assumption)
               rw [hsl]
               exact ⟨none, 0, rfl, (hT.sub (L' := [DevR d g]) K.sb).trow_nil 82 encX⟩)
            | (have hsl := load_ok hI2
               rw [hsl]
               exact ⟨a1, c1, rfl, hT.sub K.sb⟩)
      · first
        | exact absurd h2 (by decide)
        | try replace h2 := of_decide_eq_false h2
          refine K.GC.skip ?_
          refine K.GQ.go ?_
          refine K.GC.seq ?_
          refine K.GC.region ?_
          refine K.GL.det (K.e_move rfl) rfl ?_
          refine gl_tget_con Tryz.call42 rfl (by first | assumption | omega | rfl | decide) (by first | assumption | omega | rfl | decide) rfl (fun a26 c26 => ?_)
          refine K.GL.det (K.e_move rfl) rfl ?_
          refine K.GL.det (K.e_extract rfl rfl) rfl ?_
          refine K.GL.det (K.e_extract rfl rfl) rfl ?_
          refine K.GL.alloc Tryz.zeroValue31 rfl rfl (fun b9 => ?_)
          refine K.GL.storeP (vs := tabC (getT (s.read (x : Int)).1) a26 c26) (cs' := tabC (getT (s.read (x : Int)).1) a26 c26) rfl rfl rfl Tryz.sizeOf31 rfl rfl (by exact spliceO_all rfl) ?_
          refine K.GL.det (K.e_assign rfl) rfl ?_
          refine K.GL.nil ?_
          refine K.GQ.go ?_
          refine K.GC.seq ?_
          refine K.GC.region ?_
          refine K.GL.det (K.e_move rfl) rfl ?_
          refine K.GL.det (K.e_move rfl) rfl ?_
          first | refine K.GL.splitB 30 rfl (fun h3 => ?_) (fun h3 => ?_) | skip
          all_goals first | exact absurd h3 (by decide) | replace h3 := of_decide_eq_true h3 | replace h3 := of_decide_eq_false h3 | skip
          all_goals
            first | (refine K.GL.want 30 rfl rfl rfl ?_; first | refine K.GL.det (K.e_fa fo31_0 rfl) rfl ?_ | refine K.GL.det (K.e_fieldAddr fo31_0 rfl) rfl ?_) | refine K.GL.skip 30 rfl rfl rfl rfl ?_ | refine K.GL.skipU 30 rfl rfl rfl rfl ?_
            first | (refine K.GL.want 30 rfl rfl rfl ?_; first | refine K.GL.det (K.e_ldE Tryz.isAgg2 rfl rfl (by assumption) rfl) rfl ?_ | refine K.GL.det (K.e_ldF Tryz.isAgg2 rfl rfl (by assumption) rfl) rfl ?_ | refine K.GL.det (K.e_load Tryz.isAgg2 rfl rfl) rfl ?_ | refine K.GL.det (K.e_load0 Tryz.isAgg2 rfl (by assumption)) rfl ?_) | refine K.GL.skip 30 rfl rfl rfl rfl ?_ | refine K.GL.skipU 30 rfl rfl rfl rfl ?_
            first | (refine K.GL.want 30 rfl rfl rfl ?_; first | refine K.GL.det (ev_slot_con Tryz.call24 rfl ) rfl ?_) | refine K.GL.skip 30 rfl rfl rfl rfl ?_ | refine K.GL.skipU 30 rfl rfl rfl rfl ?_
            first | (refine K.GL.want 30 rfl rfl rfl ?_; first | refine K.GL.det (K.e_move rfl) rfl ?_) | refine K.GL.skip 30 rfl rfl rfl rfl ?_ | refine K.GL.skipU 30 rfl rfl rfl rfl ?_
            first | (refine K.GL.want 30 rfl rfl rfl ?_; first | refine K.GL.det ((K.e_eq rfl rfl).yes (by first | omega | assumption | decide +kernel)) rfl ?_ | refine K.GL.det ((K.e_eq rfl rfl).no (by first | omega | assumption | decide +kernel)) rfl ?_ | refine K.GL.det (K.e_eq rfl rfl) rfl ?_) | refine K.GL.skip 30 rfl rfl rfl rfl ?_ | refine K.GL.skipU 30 rfl rfl rfl rfl ?_
            first | refine K.GL.det (K.e_pick_t rfl rfl) rfl ?_ | refine K.GL.det (K.e_pick_f rfl rfl) rfl ?_
            refine K.GL.det (K.e_move rfl) rfl ?_
            first | refine K.GL.splitB 37 rfl (fun h4 => ?_) (fun h4 => ?_) | skip
            all_goals first | exact absurd h4 (by decide) | replace h4 := of_decide_eq_true h4 | replace h4 := of_decide_eq_false h4 | skip
            all_goals
              first | (refine K.GL.want 37 rfl rfl rfl ?_; first | refine K.GL.det (K.e_fa fo31_0 rfl) rfl ?_ | refine K.GL.det (K.e_fieldAddr fo31_0 rfl) rfl ?_) | refine K.GL.skip 37 rfl rfl rfl rfl ?_ | refine K.GL.skipU 37 rfl rfl rfl rfl ?_
              first | (refine K.GL.want 37 rfl rfl rfl ?_; first | refine K.GL.det (K.e_ldE Tryz.isAgg2 rfl rfl (by assumption) rfl) rfl ?_ | refine K.GL.det (K.e_ldF Tryz.isAgg2 rfl rfl (by assumption) rfl) rfl ?_ | refine K.GL.det (K.e_load Tryz.isAgg2 rfl rfl) rfl ?_ | refine K.GL.det (K.e_load0 Tryz.isAgg2 rfl (by assumption)) rfl ?_) | refine K.GL.skip 37 rfl rfl rfl rfl ?_ | refine K.GL.skipU 37 rfl rfl rfl rfl ?_
              first | (refine K.GL.want 37 rfl rfl rfl ?_; first | refine K.GL.det (K.e_fa fo31_0 rfl) rfl ?_ | refine K.GL.det (K.e_fieldAddr fo31_0 rfl) rfl ?_) | refine K.GL.skip 37 rfl rfl rfl rfl ?_ | refine K.GL.skipU 37 rfl rfl rfl rfl ?_
              first | (refine K.GL.want 37 rfl rfl rfl ?_; first | refine K.GL.det (K.e_ldE Tryz.isAgg2 rfl rfl (by assumption) rfl) rfl ?_ | refine K.GL.det (K.e_ldF Tryz.isAgg2 rfl rfl (by assumption) rfl) rfl ?_ | refine K.GL.det (K.e_load Tryz.isAgg2 rfl rfl) rfl ?_ | refine K.GL.det (K.e_load0 Tryz.isAgg2 rfl (by assumption)) rfl ?_) | refine K.GL.skip 37 rfl rfl rfl rfl ?_ | refine K.GL.skipU 37 rfl rfl rfl rfl ?_
              first | (refine K.GL.want 37 rfl rfl rfl ?_; first | refine K.GL.det ((K.e_gt rfl rfl).yes (by first | omega | assumption | decide +kernel)) rfl ?_ | refine K.GL.det ((K.e_gt rfl rfl).no (by first | omega | assumption | decide +kernel)) rfl ?_ | refine K.GL.det (K.e_gt rfl rfl) rfl ?_) | refine K.GL.skip 37 rfl rfl rfl rfl ?_ | refine K.GL.skipU 37 rfl rfl rfl rfl ?_
              first | refine K.GL.det (K.e_pick_t rfl rfl) rfl ?_ | refine K.GL.det (K.e_pick_f rfl rfl) rfl ?_
              refine K.GL.nil ?_
              refine K.GQ.go ?_
              refine K.GC.condB rfl (fun h5 => ?_) (fun h5 => ?_)
              · first
                | exact absurd h5 (by decide)
                | try replace h5 := of_decide_eq_true h5
                  refine K.GC.region ?_
                  first | refine K.GL.det (K.e_ldA Tryz.isAgg31 Tryz.sizeOf31 rfl rfl (by assumption)) rfl ?_ | refine K.GL.det (K.e_ldAF Tryz.isAgg31 Tryz.sizeOf31 rfl rfl (by assumption) rfl) rfl ?_ | refine K.GL.det (K.e_loads Tryz.isAgg31 Tryz.sizeOf31 rfl rfl) rfl ?_
                  refine K.GL.storeP (vs := tabC (getT (s.read (x : Int)).1) a26 c26) (cs' := tabC (getT (s.read (x : Int)).1) a26 c26) rfl rfl rfl Tryz.sizeOf31 rfl rfl (by exact spliceO_all rfl) ?_
                  refine K.GL.nil ?_
                  refine K.GQ.block_normal ?_
                  refine K.GQ.go ?_
                  refine K.GC.region ?_
                  first | refine K.GL.det (K.e_add rfl rfl ⟨by omega, by omega⟩) rfl ?_ | refine K.GL.det (K.e_addw rfl rfl) rfl ?_
                  refine K.GL.det (K.e_move rfl) rfl ?_
                  refine K.GL.nil ?_
                  have hnx : ∀ y : Nat, y < x + 1 → (s.read (y : Int)).2 = 0 := fun y hy => by
                    rcases Nat.lt_or_ge y x with h | h
                    · exact hI2 y h
                    · obtain rfl : y = x := by omega
                      exact Classical.not_not.1 (by assumption)
                  first
                    | (have hlN := load_yes (s := s) (x := x) (by assumption) (by assumption) (by assumption)
                       exact K.GQ.round (x + 1, a26, c26) ⟨by simp only; omega, hnx⟩ (by simp only; omega) (by (repeat refine ⟨rfl, ?_⟩); exact trivial) (by simp only [hlN]; exact K.sb))
                    | (have hlN := load_no (s := s) (x := x) (fun h1 h2 h3 => by simp_all; done)
                       exact K.GQ.round (x + 1, a1, c1) ⟨by simp only; omega, hnx⟩ (by simp only; omega) (by (repeat refine ⟨rfl, ?_⟩); exact trivial) (by simp only [hlN]; exact K.sb))
              · first
                | exact absurd h5 (by decide)
                | try replace h5 := of_decide_eq_false h5
                  refine K.GC.skip ?_
                  refine K.GQ.block_normal ?_
                  refine K.GQ.go ?_
                  refine K.GC.region ?_
                  first | refine K.GL.det (K.e_add rfl rfl ⟨by omega, by omega⟩) rfl ?_ | refine K.GL.det (K.e_addw rfl rfl) rfl ?_
                  refine K.GL.det (K.e_move rfl) rfl ?_
                  refine K.GL.nil ?_
                  have hnx : ∀ y : Nat, y < x + 1 → (s.read (y : Int)).2 = 0 := fun y hy => by
                    rcases Nat.lt_or_ge y x with h | h
                    · exact hI2 y h
                    · obtain rfl : y = x := by omega
                      exact Classical.not_not.1 (by assumption)
                  first
                    | (have hlN := load_yes (s := s) (x := x) (by assumption) (by assumption) (by assumption)
                       exact K.GQ.round (x + 1, a26, c26) ⟨by simp only; omega, hnx⟩ (by simp only; omega) (by (repeat refine ⟨rfl, ?_⟩); exact trivial) (by simp only [hlN]; exact K.sb))
                    | (have hlN := load_no (s := s) (x := x) (fun h1 h2 h3 => by simp_all; done)
                       exact K.GQ.round (x + 1, a1, c1) ⟨by simp only; omega, hnx⟩ (by simp only; omega) (by (repeat refine ⟨rfl, ?_⟩); exact trivial) (by simp only [hlN]; exact K.sb))
  · first
    | exact absurd h1 (by decide)
    | try replace h1 := of_decide_eq_false h1
      refine K.GC.exit ?_
      refine K.GQ.then_exit ?_
      refine K.GQ.then_exit ?_
      refine K.GQ.block_hit ?_
      refine K.GQ.go ?_
      refine K.GC.seq ?_
      obtain rfl : x = 2 := by omega
      refine K.D.GC.drawn1r (cl b2 31 (tabC ⟨0, 0, []⟩ none 0)) 5 [[], [], [1], [1, 2], [0], [0, 1, 2, 3, 4], [0, 1, 2, 3, 4, 5]] [[], [], [1], [2], [0]] [[], [], [], [], [5]] [[], [], [], [], [5]] [4] [2, 3, 4, 5] (by kernel_rfl) (by kernel_rfl) (by kernel_rfl) rfl ?_
      first | refine K.D.DW.det (b := []) (u := []) rfl rfl rfl (fun vs hf => K.e_ldA Tryz.isAgg31 Tryz.sizeOf31 rfl rfl (by assumption)) ?_ | refine K.D.DW.det (b := []) (u := []) rfl rfl rfl (fun vs hf => K.e_ldAF Tryz.isAgg31 Tryz.sizeOf31 rfl rfl (by assumption) rfl) ?_ | refine K.D.DW.det (b := []) (u := []) rfl rfl rfl (fun vs hf => K.e_loads Tryz.isAgg31 Tryz.sizeOf31 rfl rfl) ?_
      first | refine K.D.DW.det (b := []) (u := []) rfl rfl rfl (fun vs hf => K.e_fa fo31_0 rfl) ?_ | refine K.D.DW.det (b := []) (u := []) rfl rfl rfl (fun vs hf => K.e_fieldAddr fo31_0 rfl) ?_
      first | refine K.D.DW.det (b := [1]) (u := []) rfl rfl rfl (fun vs hf => K.e_ldE Tryz.isAgg2 rfl rfl (by assumption) rfl) ?_ | refine K.D.DW.det (b := [1]) (u := []) rfl rfl rfl (fun vs hf => K.e_ldF Tryz.isAgg2 rfl rfl (by assumption) rfl) ?_ | refine K.D.DW.det (b := [1]) (u := []) rfl rfl rfl (fun vs hf => K.e_load Tryz.isAgg2 rfl rfl) ?_ | refine K.D.DW.det (b := [1]) (u := []) rfl rfl rfl (fun vs hf => K.e_load0 Tryz.isAgg2 rfl (by assumption)) ?_
      first | refine K.D.DW.det (b := [2]) (u := []) rfl rfl rfl (fun vs hf => (K.e_gt rfl rfl).yes (by first | omega | assumption | decide +kernel)) ?_ | refine K.D.DW.det (b := [2]) (u := []) rfl rfl rfl (fun vs hf => (K.e_gt rfl rfl).no (by first | omega | assumption | decide +kernel)) ?_ | refine K.D.DW.det (b := [2]) (u := []) rfl rfl rfl (fun vs hf => K.e_gt rfl rfl) ?_
      refine K.D.DW.ev0 (b := [0]) (u := [5]) (a := [5]) rfl rfl rfl (fun vs hf => show K.D.EvM _ _ _ _ (_ :: _) [_] _ _ _ _ _ from K.D.em_store (vs := tabC (loadN s 2) a1 c1) (cs' := tabC (loadN s 2) a1 c1) rfl rfl rfl Tryz.sizeOf31 rfl rfl (by exact spliceO_all rfl)) ?_
      refine K.D.DW.fin (fun vs hf => ?_)
      refine K.GL.keep [2, 3, 4, 49] rfl ?_
      refine K.D.GL.res1 rfl ?_
      try dsimp only
      clear hf
      try clear vs
      refine K.GL.det (K.e_assign rfl) rfl ?_
      refine K.GL.det (K.e_assign rfl) rfl ?_
      refine K.GL.nil ?_
      refine K.GQ.go ?_
      refine K.GC.ret ?_
      refine K.GQ.ret_ctt Tryz.results16 Tryz.isAgg31 Tryz.sizeOf31 rfl rfl rfl rfl (fun w hT => ?_)
      first
        | (have hsl := load_bad (s := s) (x := x) (by omega) hI2 (by assumption)
           rw [hsl]
           exact ⟨none, 0, rfl, (hT.sub (L' := [DevR d g]) K.sb).trow_nil 82 encX⟩)
        | (have hsl := load_ok hI2
           rw [hsl]
           exact ⟨a1, c1, rfl, hT.sub K.sb⟩)
section
variable {ops : Array Oper} {Q : Exit → Act → World → Prop} {N : Nat} {U : Env} {w0 : World} {L0 L F : List Res} {ty : TypeId} {rest : List Oper} {pos : String} {after : Array Edge} {xs : List Operand} {tys : Array TypeId} {dT : Tmp}
theorem gl_load_con {d : Nat} {g : DG} {s : DS}  {F1 : List Res}(hf : ∀ args w, (callFunc 16 args).run Tryz.prog w = .ok (.enter 16 args) w) (hx : opvs U xs = some [.pointer (some ⟨d, 0, none⟩)]) [p1 : PkD L d g F1] (hk : g.Ok) (hs : g.v = s) (hd : Nat.ble (dT + 1) N = true)
    (hr : ∀ (a' : Option Addr) (c' : Nat), GL Tryz.prog ops Q rest N ((dT, .tuple #[.agg (tabC (s.load).1 a' c').toArray, .bool (s.load).2.1, .int .i64 (s.load).2.2]) :: U) w0 L0 (trow a' c' 82 encX (s.load).1.exts :: DevR d g :: F1)) : GL Tryz.prog ops Q (⟨some dT, .call ⟨.value (.func 16), xs.toArray, tys⟩, ty, pos, after, Option.none⟩ :: rest) N U w0 L0 L :=
  GL.callM (α := (Option Addr) × (Nat)) (l := [DevR d g]) (Pv := fun y v => v = .tuple #[.agg (tabC (s.load).1 y.1 y.2).toArray, .bool (s.load).2.1, .int .i64 (s.load).2.2]) (l' := fun y => [trow y.1 y.2 82 encX (s.load).1.exts, DevR d g]) hf hx (p1.out)
    (fun w hT => by
      have hT1 : Tr w0 L0 w ([DevR d g] ++ F1) := hT.sub (p1.out); have hd0 := Disj.left hT1.disj; have ho0 := fun r hr => hT1.ok r (List.mem_append_left _ hr); exact (load_con hk hs hd0 ho0).mono fun e w' ⟨a', c', h1, h2⟩ => ⟨(a', c'), _, h1, rfl, h2⟩) hd fun y v hv => by subst hv; exact hr y.1 y.2 
end
end Go.Proofs.YtdbedajaapamhaaGreat
