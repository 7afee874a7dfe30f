/- The document's device as a caller meets it; its table saved and loaded. -/
import Derived.Test.YtdbedajaapamhaaGreatSuRU
import Derived.Test.YtdbedajaapamhaaGreatKr
namespace Go.Proofs.YtdbedajaapamhaaGreat
open Go Go.K
set_option linter.unusedVariables false
set_option linter.unusedSimpArgs false
attribute [local irreducible] Calls Ev GL GC GQ GR Code.wp
class PkR (L : List Res) (r : Nat) (g : outParam RG) (F : outParam (List Res)) : Prop where
  out : Sub (RefR r g :: F) L
instance PkR.tail {L F : List Res} {s : Res} {r : Nat} {g : RG} [h : PkR L r g F] : PkR (s :: L) r g (s :: F) := ⟨(Sub.swap _ s F).trans (h.out.cons s)⟩
instance PkR.head {L : List Res} {r : Nat} {g : RG} : PkR (RefR r g :: L) r g L := ⟨Sub.refl _⟩
/-- The document's device that may be asked. -/
class InR (w0 : World) (L0 L : List Res) (r : Nat) (g : outParam RG) : Prop where
  out : ∀ w, Tr w0 L0 w L → (RefR r g).ok w.heap
instance InR.tail {w0 : World} {L0 L : List Res} {s : Res} {r : Nat} {g : RG} [h : InR w0 L0 L r g] : InR w0 L0 (s :: L) r g := ⟨fun w hT => h.out w hT.drop_one⟩
instance InR.head {w0 : World} {L0 L : List Res} {r : Nat} {g : RG} : InR w0 L0 (RefR r g :: L) r g := ⟨fun w hT => hT.ok _ List.mem_cons_self⟩
theorem tmod_two (a : Int) : a.tmod 2 = a % 2 ∨ (a.tmod 2 = -1 ∧ a % 2 = 1) := by
  rcases Int.le_total 0 a with h | h
  · left; exact Int.tmod_eq_emod_of_nonneg h
  · have h1 : (-a).tmod 2 = (-a) % 2 := Int.tmod_eq_emod_of_nonneg (by omega)
    rw [Int.neg_tmod] at h1
    omega
section
variable {P : Program} {U : Env} {w0 : World} {L0 L : List Res} {T Y : TypeId} {ty : TypeId} {x y : Operand} {a : Int}
theorem e_tmod2 (hx : opv U x = some (.int .i64 a)) (hy : opv U y = some (.int .i64 2)) : Ev P U w0 L0 L (.binOp .rem T x y Y) ty (Is (.int .i64 (a.tmod 2))) No :=
  .val fun ρ w dst pos after guard hρ hT => by
    have h6 : IntKind.i64.wrap (a.tmod 2) = a.tmod 2 := wrap_i64 (by have := tmod_two a; omega) (by have := tmod_two a; omega)
    simp [execOp, hρ _ _ hx, hρ _ _ hy, go_sem, h6]
theorem e_neg64 (hx : opv U x = some (.int .i64 a)) (h1 : -9223372036854775807 ≤ a) (h2 : a ≤ 9223372036854775807) : Ev P U w0 L0 L (.unOp .neg T x) ty (Is (.int .i64 (-a))) No :=
  .val fun ρ w dst pos after guard hρ hT => by
    have h6 : IntKind.i64.wrap (-a) = -a := wrap_i64 (by omega) (by omega)
    simp [execOp, hρ _ _ hx, go_sem, h6]
end
theorem loadN_gen (s : DS) : ∀ x, 0 ≤ (loadN s x).gen
  | 0 => Int.le_refl 0
  | x + 1 => by
    have ih := loadN_gen s x
    rw [loadN, loadS]
    split
    · rename_i h; omega
    · exact ih
theorem loadN_len (s : DS) : ∀ x, (loadN s x).exts.length ≤ 9223372036854775807
  | 0 => by simp [loadN]
  | x + 1 => by
    have ih := loadN_len s x
    rw [loadN, loadS]
    split
    · exact getT_len _
    · exact ih
theorem load_len (s : DS) : s.load.1.exts.length ≤ 9223372036854775807 := by
  unfold DS.load
  split
  · simp
  · split
    · simp
    · exact loadN_len s 2
/-! ### What comes in -/
structure VX where
  dw : Int
  at_ : Int
  dc : Int
  ba : Option Addr
  bc : Nat
  bs : Bytes
  ka : Option Addr
  kc : Nat
  ks : List Bool
  ha : Option Addr
  hc : Nat
  hs : List HX
abbrev VX.cells (x : VX) : List Value := [.int .i64 x.dw, .int .i64 x.at_, .int .u8 x.dc, .slice x.ba x.bs.length x.bc, .slice x.ka x.ks.length x.kc, .slice x.ha x.hs.length x.hc]
structure VX.Good (w : World) (x : VX) : Prop where
  ob : Old w [] x.ba encB x.bs
  ok : Old w [] x.ka encT x.ks
  oh : Old w [] x.ha encHX x.hs
  bits : ∀ h ∈ x.hs, h.bits < 4294967296
  lb : x.bs.length ≤ maxLen
  lk : x.ks.length ≤ maxLen
  lh : x.hs.length ≤ maxLen
  at1 : I64 x.at_
structure PX where
  what : Int
  t : Tab
  ta : Option Addr
  tc : Nat
  d : VX
abbrev PX.cells (x : PX) : List Value := [.int .i64 x.what, .int .i64 x.t.gen, .int .i64 x.t.opn, .slice x.ta x.t.exts.length x.tc, .int .i64 x.d.dw, .int .i64 x.d.at_, .int .u8 x.d.dc, .slice x.d.ba x.d.bs.length x.d.bc, .slice x.d.ka x.d.ks.length x.d.kc, .slice x.d.ha x.d.hs.length x.d.hc]
instance : Inhabited HX := ⟨⟨0, 0, 0⟩⟩
instance : Inhabited PX := ⟨⟨0, ⟨0, 0, []⟩, none, 0, ⟨0, 0, 0, none, 0, [], none, 0, [], none, 0, []⟩⟩⟩
def encPX : Enc PX := ⟨PX.cells, 10, by decide, fun _ => rfl, fun _ => rfl⟩
structure PX.Good (w : World) (x : PX) : Prop where
  ot : Old w [] x.ta encX x.t.exts
  lt : x.t.exts.length ≤ maxLen
  v : x.d.Good w

/- (*turntable/turntableref07.Dev).Write -/
theorem rdwrite_con {rp : Nat} {g : RG} {s : DS} {i : Int} {bs : Bytes} {a : Option Addr} {c : Nat} {w : World} (hk : g.Ok) (hs : g.s = s) [Old w [RefR rp g] a (encB) (bs)] (hd : Disj [RefR rp g]) (ho : ∀ r ∈ ([RefR rp g] : List Res), r.ok w.heap) :
    Calls Tryz.prog 15 #[.pointer (some ⟨rp, 0, none⟩), .int .i64 i, .slice a bs.length c] w fun e w' => ∃ g' : RG, e = .returned (.int .i64 (s.write i bs).2) ∧ g'.Ok ∧ g'.s = (s.write i bs).1 ∧ Tr w [RefR rp g] w' [RefR rp g'] := by
  subst hs
  have hS : Old w [RefR rp g] a encB bs := inferInstance
  have h1 := hS.sl
  rw [encB_fl] at h1
  refine (rwrite_con hk i (ho _ List.mem_cons_self) h1 (fun h0 => hS.ap (by intro e; subst e; exact absurd h0 (by decide)) _ List.mem_cons_self)).mono fun e w' ⟨x, h1, h2, h3, h4⟩ => ⟨x, h1, h2, h3, h4⟩
section
variable {ops : Array Oper} {Q : Exit → Act → World → Prop} {N : Nat} {U : Env} {w0 : World} {L0 L F : List Res} {ty : TypeId} {rest : List Oper} {pos : String} {after : Array Edge} {xs : List Operand} {tys : Array TypeId} {dT : Tmp}
theorem gl_rdwrite_con {rp : Nat} {g : RG} {s : DS} {i : Int} {bs : Bytes} {a : Option Addr} {c : Nat}  {F1 : List Res}(hf : ∀ args w, (callFunc 15 args).run Tryz.prog w = .ok (.enter 15 args) w) (hx : opvs U xs = some [.pointer (some ⟨rp, 0, none⟩), .int .i64 i, .slice a bs.length c]) [p1 : PkR L rp g F1] (hk : g.Ok) (hs : g.s = s) [o0 : RdC w0 L0 [RefR rp g] F1 a (encB) (bs)] (hd : Nat.ble (dT + 1) N = true)
    (hr : ∀ (g' : RG), g'.Ok → g'.s = (s.write i bs).1 → GL Tryz.prog ops Q rest N ((dT, .int .i64 (s.write i bs).2) :: U) w0 L0 (RefR rp g' :: F1)) : GL Tryz.prog ops Q (⟨some dT, .call ⟨.value (.func 15), xs.toArray, tys⟩, ty, pos, after, Option.none⟩ :: rest) N U w0 L0 L :=
  GL.callM (α := (RG)) (l := [RefR rp g]) (Pv := fun y v => v = .int .i64 (s.write i bs).2 ∧ y.Ok ∧ y.s = (s.write i bs).1) (l' := fun y => [RefR rp y]) hf hx (p1.out)
    (fun w hT => by
      have hT1 : Tr w0 L0 w ([RefR rp g] ++ F1) := hT.sub (p1.out); have _o0 := o0.out w hT1; have hd0 := Disj.left hT1.disj; have ho0 := fun r hr => hT1.ok r (List.mem_append_left _ hr); exact (rdwrite_con hk hs hd0 ho0).mono fun e w' ⟨g', h1, g0, g1, h2⟩ => ⟨(g'), _, h1, ⟨rfl, g0, g1⟩, h2⟩) hd fun y v hv => by obtain ⟨rfl, g0, g1⟩ := hv; exact hr y g0 g1
end
/- (*turntable/turntableref07.Dev).Flush -/
theorem rdflush_con {rp : Nat} {g : RG} {s : DS} {w : World} (hk : g.Ok) (hs : g.s = s) (hd : Disj [RefR rp g]) (ho : ∀ r ∈ ([RefR rp g] : List Res), r.ok w.heap) :
    Calls Tryz.prog 33 #[.pointer (some ⟨rp, 0, none⟩)] w fun e w' => ∃ g' : RG, e = .returned (.int .i64 s.flush.2) ∧ g'.Ok ∧ g'.s = s.flush.1 ∧ Tr w [RefR rp g] w' [RefR rp g'] := by
  subst hs
  exact (rflush_con hk (ho _ List.mem_cons_self)).mono fun e w' ⟨x, h1, h2, h3, h4⟩ => ⟨x, h1, h2, h3, h4⟩
section
variable {ops : Array Oper} {Q : Exit → Act → World → Prop} {N : Nat} {U : Env} {w0 : World} {L0 L F : List Res} {ty : TypeId} {rest : List Oper} {pos : String} {after : Array Edge} {xs : List Operand} {tys : Array TypeId} {dT : Tmp}
theorem gl_rdflush_con {rp : Nat} {g : RG} {s : DS}  {F1 : List Res}(hf : ∀ args w, (callFunc 33 args).run Tryz.prog w = .ok (.enter 33 args) w) (hx : opvs U xs = some [.pointer (some ⟨rp, 0, none⟩)]) [p1 : PkR L rp g F1] (hk : g.Ok) (hs : g.s = s) (hd : Nat.ble (dT + 1) N = true)
    (hr : ∀ (g' : RG), g'.Ok → g'.s = s.flush.1 → GL Tryz.prog ops Q rest N ((dT, .int .i64 s.flush.2) :: U) w0 L0 (RefR rp g' :: F1)) : GL Tryz.prog ops Q (⟨some dT, .call ⟨.value (.func 33), xs.toArray, tys⟩, ty, pos, after, Option.none⟩ :: rest) N U w0 L0 L :=
  GL.callM (α := (RG)) (l := [RefR rp g]) (Pv := fun y v => v = .int .i64 s.flush.2 ∧ y.Ok ∧ y.s = s.flush.1) (l' := fun y => [RefR rp y]) hf hx (p1.out)
    (fun w hT => by
      have hT1 : Tr w0 L0 w ([RefR rp g] ++ F1) := hT.sub (p1.out); have hd0 := Disj.left hT1.disj; have ho0 := fun r hr => hT1.ok r (List.mem_append_left _ hr); exact (rdflush_con hk hs hd0 ho0).mono fun e w' ⟨g', h1, g0, g1, h2⟩ => ⟨(g'), _, h1, ⟨rfl, g0, g1⟩, h2⟩) hd fun y v hv => by obtain ⟨rfl, g0, g1⟩ := hv; exact hr y g0 g1
end
/- (*turntable/turntableref07.Dev).Cut -/
theorem rdcut_con {rp : Nat} {g : RG} {s : DS} {i : Int} {w : World} (hk : g.Ok) (hs : g.s = s) (hi : I64 i) (hd : Disj [RefR rp g]) (ho : ∀ r ∈ ([RefR rp g] : List Res), r.ok w.heap) :
    Calls Tryz.prog 11 #[.pointer (some ⟨rp, 0, none⟩), .int .i64 i] w fun e w' => ∃ v' : Value, ∃ g' : RG, e = .returned (v') ∧ g'.Ok ∧ g'.s = s.setCut i ∧ Tr w [RefR rp g] w' [RefR rp g'] := by
  subst hs
  exact (rcut_con hk i hi (ho _ List.mem_cons_self)).mono fun e w' ⟨v, x, h1, h2, h3, h4⟩ => ⟨v, x, h1, h2, h3, h4⟩
section
variable {ops : Array Oper} {Q : Exit → Act → World → Prop} {N : Nat} {U : Env} {w0 : World} {L0 L F : List Res} {ty : TypeId} {rest : List Oper} {pos : String} {after : Array Edge} {xs : List Operand} {tys : Array TypeId} {dT : Tmp}
theorem gl_rdcut_con {rp : Nat} {g : RG} {s : DS} {i : Int}  {F1 : List Res}(hf : ∀ args w, (callFunc 11 args).run Tryz.prog w = .ok (.enter 11 args) w) (hx : opvs U xs = some [.pointer (some ⟨rp, 0, none⟩), .int .i64 i]) [p1 : PkR L rp g F1] (hk : g.Ok) (hs : g.s = s) (hi : I64 i) (hd : Nat.ble (dT + 1) N = true)
    (hr : ∀ (v' : Value) (g' : RG), g'.Ok → g'.s = s.setCut i → GL Tryz.prog ops Q rest N ((dT, v') :: U) w0 L0 (RefR rp g' :: F1)) : GL Tryz.prog ops Q (⟨some dT, .call ⟨.value (.func 11), xs.toArray, tys⟩, ty, pos, after, Option.none⟩ :: rest) N U w0 L0 L :=
  GL.callM (α := (Value) × (RG)) (l := [RefR rp g]) (Pv := fun y v => v = y.1 ∧ y.2.Ok ∧ y.2.s = s.setCut i) (l' := fun y => [RefR rp y.2]) hf hx (p1.out)
    (fun w hT => by
      have hT1 : Tr w0 L0 w ([RefR rp g] ++ F1) := hT.sub (p1.out); have hd0 := Disj.left hT1.disj; have ho0 := fun r hr => hT1.ok r (List.mem_append_left _ hr); exact (rdcut_con hk hs hi hd0 ho0).mono fun e w' ⟨v', g', h1, g0, g1, h2⟩ => ⟨(v', g'), _, h1, ⟨rfl, g0, g1⟩, h2⟩) hd fun y v hv => by obtain ⟨rfl, g0, g1⟩ := hv; exact hr y.1 y.2 g0 g1
end
/- (*turntable/turntableref07.Dev).Boot -/
theorem rdboot_con {rp : Nat} {g : RG} {s : DS} {ak ah : Option Addr} {ck ch : Nat} {ks : List Bool} {hs : List HX} {w : World} (hk : g.Ok) (hv : g.s = s) (hb : ∀ h ∈ hs, h.bits < 4294967296) (hnh : hs.length ≤ 9223372036854775807) [Old w [RefR rp g] ak (encT) (ks)] [Old w [RefR rp g] ah (encHX) (hs)] (hd : Disj [RefR rp g]) (ho : ∀ r ∈ ([RefR rp g] : List Res), r.ok w.heap) :
    Calls Tryz.prog 13 #[.pointer (some ⟨rp, 0, none⟩), .slice ak ks.length ck, .slice ah hs.length ch] w fun e w' => ∃ v' : Value, ∃ g' : RG, e = .returned (v') ∧ g'.Ok ∧ g'.s = s.boot ks hs ∧ Tr w [RefR rp g] w' [RefR rp g'] := by
  subst hv
  have hK : Old w [RefR rp g] ak encT ks := inferInstance
  have hH : Old w [RefR rp g] ah encHX hs := inferInstance
  have h1 := hK.sl
  rw [encT_fl] at h1
  refine (rboot_con hk (ho _ List.mem_cons_self) h1 (fun h0 => hK.ap (by intro e; subst e; exact absurd h0 (by decide)) _ List.mem_cons_self) hH.sl (fun h0 => hH.ap (by intro e; subst e; exact absurd h0 (by decide)) _ List.mem_cons_self) hb hnh).mono fun e w' ⟨v, x, h1, h2, h3, h4⟩ => ⟨v, x, h1, h2, h3, h4⟩
section
variable {ops : Array Oper} {Q : Exit → Act → World → Prop} {N : Nat} {U : Env} {w0 : World} {L0 L F : List Res} {ty : TypeId} {rest : List Oper} {pos : String} {after : Array Edge} {xs : List Operand} {tys : Array TypeId} {dT : Tmp}
theorem gl_rdboot_con {rp : Nat} {g : RG} {s : DS} {ak ah : Option Addr} {ck ch : Nat} {ks : List Bool} {hs : List HX}  {F1 : List Res}(hf : ∀ args w, (callFunc 13 args).run Tryz.prog w = .ok (.enter 13 args) w) (hx : opvs U xs = some [.pointer (some ⟨rp, 0, none⟩), .slice ak ks.length ck, .slice ah hs.length ch]) [p1 : PkR L rp g F1] (hk : g.Ok) (hv : g.s = s) (hb : ∀ h ∈ hs, h.bits < 4294967296) (hnh : hs.length ≤ 9223372036854775807) [o0 : RdC w0 L0 [RefR rp g] F1 ak (encT) (ks)] [o1 : RdC w0 L0 [RefR rp g] F1 ah (encHX) (hs)] (hd : Nat.ble (dT + 1) N = true)
    (hr : ∀ (v' : Value) (g' : RG), g'.Ok → g'.s = s.boot ks hs → GL Tryz.prog ops Q rest N ((dT, v') :: U) w0 L0 (RefR rp g' :: F1)) : GL Tryz.prog ops Q (⟨some dT, .call ⟨.value (.func 13), xs.toArray, tys⟩, ty, pos, after, Option.none⟩ :: rest) N U w0 L0 L :=
  GL.callM (α := (Value) × (RG)) (l := [RefR rp g]) (Pv := fun y v => v = y.1 ∧ y.2.Ok ∧ y.2.s = s.boot ks hs) (l' := fun y => [RefR rp y.2]) hf hx (p1.out)
    (fun w hT => by
      have hT1 : Tr w0 L0 w ([RefR rp g] ++ F1) := hT.sub (p1.out); have _o0 := o0.out w hT1; have _o1 := o1.out w hT1; have hd0 := Disj.left hT1.disj; have ho0 := fun r hr => hT1.ok r (List.mem_append_left _ hr); exact (rdboot_con hk hv hb hnh hd0 ho0).mono fun e w' ⟨v', g', h1, g0, g1, h2⟩ => ⟨(v', g'), _, h1, ⟨rfl, g0, g1⟩, h2⟩) hd fun y v hv => by obtain ⟨rfl, g0, g1⟩ := hv; exact hr y.1 y.2 g0 g1
end
/- (*turntable/turntableref07.Dev).Done -/
theorem rddone_con {rp : Nat} {g : RG} {s : DS} {w : World} (hs : g.s = s) (ho : (RefR rp g).ok w.heap) :
    Calls Tryz.prog 20 #[.pointer (some ⟨rp, 0, none⟩)] w fun e w' => e = .returned (.int .i64 s.done) ∧ Tr w [] w' [] := by
  subst hs
  exact rdone_con ho
section
variable {ops : Array Oper} {Q : Exit → Act → World → Prop} {N : Nat} {U : Env} {w0 : World} {L0 L F : List Res} {ty : TypeId} {rest : List Oper} {pos : String} {after : Array Edge} {xs : List Operand} {tys : Array TypeId} {dT : Tmp}
theorem ev_rddone_con {rp : Nat} {g : RG} {s : DS} (hf : ∀ args w, (callFunc 20 args).run Tryz.prog w = .ok (.enter 20 args) w) (hx : opvs U xs = some [.pointer (some ⟨rp, 0, none⟩)]) (hs : g.s = s) [i0 : InR w0 L0 L rp g] : Ev Tryz.prog U w0 L0 L (.call ⟨.value (.func 20), xs.toArray, tys⟩) ty (Is (.int .i64 s.done)) No :=
  K.e_call1 hf hx (fun w hT => by exact rddone_con hs (i0.out w hT))
end
/- (*turntable/turntableref07.Dev).Loose -/
theorem rdloose_con {rp : Nat} {g : RG} {s : DS} {w : World} (hk : g.Ok) (hs : g.s = s) (ho : (RefR rp g).ok w.heap) :
    Calls Tryz.prog 23 #[.pointer (some ⟨rp, 0, none⟩)] w fun e w' => ∃ a' : Option Addr, ∃ c' : Nat, e = .returned (.slice a' (intl s.list).length c') ∧ Tr w [] w' [trow a' c' 3 I6 (intl s.list)] := by
  subst hs
  refine (rloose_con hk ho).mono fun e w' ⟨a, c, h1, h2⟩ => ⟨a, c, by rw [h1, intl_length], ?_⟩
  unfold trow
  rw [I6_fl]
  exact h2
section
variable {ops : Array Oper} {Q : Exit → Act → World → Prop} {N : Nat} {U : Env} {w0 : World} {L0 L F : List Res} {ty : TypeId} {rest : List Oper} {pos : String} {after : Array Edge} {xs : List Operand} {tys : Array TypeId} {dT : Tmp}
theorem gl_rdloose_con {rp : Nat} {g : RG} {s : DS} (hf : ∀ args w, (callFunc 23 args).run Tryz.prog w = .ok (.enter 23 args) w) (hx : opvs U xs = some [.pointer (some ⟨rp, 0, none⟩)]) (hk : g.Ok) (hs : g.s = s) [i0 : InR w0 L0 L rp g] (hd : Nat.ble (dT + 1) N = true)
    (hr : ∀ (a' : Option Addr) (c' : Nat), GL Tryz.prog ops Q rest N ((dT, .slice a' (intl s.list).length c') :: U) w0 L0 (trow a' c' 3 I6 (intl s.list) :: L)) : GL Tryz.prog ops Q (⟨some dT, .call ⟨.value (.func 23), xs.toArray, tys⟩, ty, pos, after, Option.none⟩ :: rest) N U w0 L0 L :=
  GL.callM (α := (Option Addr) × (Nat)) (l := []) (Pv := fun y v => v = .slice y.1 (intl s.list).length y.2) (l' := fun y => [trow y.1 y.2 3 I6 (intl s.list)]) hf hx (Sub.refl _)
    (fun w hT => by
      exact (rdloose_con hk hs (i0.out w hT)).mono fun e w' ⟨a', c', h1, h2⟩ => ⟨(a', c'), _, h1, rfl, h2⟩) hd fun y v hv => by subst hv; exact hr y.1 y.2 
end
section
variable {ops : Array Oper} {Q : Exit → Act → World → Prop} {N : Nat} {U : Env} {w0 : World} {L0 L F : List Res} {ty : TypeId} {rest : List Oper} {pos : String} {after : Array Edge} {xs : List Operand} {tys : Array TypeId} {dT : Tmp}
end
/- (*turntable/turntableref07.Dev).Read -/
theorem rdread_con {rp : Nat} {g : RG} {s : DS} {i : Int} {w : World} (hk : g.Ok) (hs : g.s = s) (ho : (RefR rp g).ok w.heap) :
    Calls Tryz.prog 43 #[.pointer (some ⟨rp, 0, none⟩), .int .i64 i] w fun e w' => ∃ a' : Option Addr, ∃ c' : Nat, e = .returned (.tuple #[.slice a' (s.read i).1.length c', .int .i64 (s.read i).2]) ∧ (s.read i).1.length ≤ c' ∧ Tr w [] w' [tro a' encB (s.read i).1] := by
  subst hs
  exact (rread_con hk i ho).mono fun e w' ⟨a, c, h1, h2, h3⟩ => ⟨a, c, h2, h1, h3.rdr_tro⟩
section
variable {ops : Array Oper} {Q : Exit → Act → World → Prop} {N : Nat} {U : Env} {w0 : World} {L0 L F : List Res} {ty : TypeId} {rest : List Oper} {pos : String} {after : Array Edge} {xs : List Operand} {tys : Array TypeId} {dT : Tmp}
theorem gl_rdread_con {rp : Nat} {g : RG} {s : DS} {i : Int} (hf : ∀ args w, (callFunc 43 args).run Tryz.prog w = .ok (.enter 43 args) w) (hx : opvs U xs = some [.pointer (some ⟨rp, 0, none⟩), .int .i64 i]) (hk : g.Ok) (hs : g.s = s) [i0 : InR w0 L0 L rp g] (hd : Nat.ble (dT + 1) N = true)
    (hr : ∀ (a' : Option Addr) (c' : Nat), (s.read i).1.length ≤ c' → GL Tryz.prog ops Q rest N ((dT, .tuple #[.slice a' (s.read i).1.length c', .int .i64 (s.read i).2]) :: U) w0 L0 (tro a' encB (s.read i).1 :: L)) : GL Tryz.prog ops Q (⟨some dT, .call ⟨.value (.func 43), xs.toArray, tys⟩, ty, pos, after, Option.none⟩ :: rest) N U w0 L0 L :=
  GL.callM (α := (Option Addr) × (Nat)) (l := []) (Pv := fun y v => v = .tuple #[.slice y.1 (s.read i).1.length y.2, .int .i64 (s.read i).2] ∧ (s.read i).1.length ≤ y.2) (l' := fun y => [tro y.1 encB (s.read i).1]) hf hx (Sub.refl _)
    (fun w hT => by
      exact (rdread_con hk hs (i0.out w hT)).mono fun e w' ⟨a', c', h1, g0, h2⟩ => ⟨(a', c'), _, h1, ⟨rfl, g0⟩, h2⟩) hd fun y v hv => by obtain ⟨rfl, g0⟩ := hv; exact hr y.1 y.2 g0
end
section
variable {ops : Array Oper} {Q : Exit → Act → World → Prop} {N : Nat} {U : Env} {w0 : World} {L0 L F : List Res} {ty : TypeId} {rest : List Oper} {pos : String} {after : Array Edge} {xs : List Operand} {tys : Array TypeId} {dT : Tmp}
end
/- turntable/turntableref07.New -/
theorem rdnew_con {n : Int} {w : World} (hn : 1 ≤ n ∧ n ≤ 4096) :
    Calls Tryz.prog 7 #[.int .i64 n] w fun e w' => ∃ r' : Nat, ∃ g' : RG, e = .returned (.pointer (some ⟨ r', 0, none⟩)) ∧ g'.Ok ∧ g'.s = DS.new n.toNat ∧ Tr w [] w' [RefR r' g'] := by
  refine (rnew_con n).mono fun e w' h => ?_
  rcases h with ⟨h1, _⟩ | ⟨r, g, _, h2, h3, h4, h5⟩
  · exact absurd hn h1
  · exact ⟨r, g, h2, h3, h4, h5⟩
section
variable {ops : Array Oper} {Q : Exit → Act → World → Prop} {N : Nat} {U : Env} {w0 : World} {L0 L F : List Res} {ty : TypeId} {rest : List Oper} {pos : String} {after : Array Edge} {xs : List Operand} {tys : Array TypeId} {dT : Tmp}
theorem gl_rdnew_con {n : Int} (hf : ∀ args w, (callFunc 7 args).run Tryz.prog w = .ok (.enter 7 args) w) (hx : opvs U xs = some [.int .i64 n]) (hn : 1 ≤ n ∧ n ≤ 4096) (hd : Nat.ble (dT + 1) N = true)
    (hr : ∀ (r' : Nat) (g' : RG), g'.Ok → g'.s = DS.new n.toNat → GL Tryz.prog ops Q rest N ((dT, .pointer (some ⟨ r', 0, none⟩)) :: U) w0 L0 (RefR r' g' :: L)) : GL Tryz.prog ops Q (⟨some dT, .call ⟨.value (.func 7), xs.toArray, tys⟩, ty, pos, after, Option.none⟩ :: rest) N U w0 L0 L :=
  GL.callM (α := (Nat) × (RG)) (l := []) (Pv := fun y v => v = .pointer (some ⟨ y.1, 0, none⟩) ∧ y.2.Ok ∧ y.2.s = DS.new n.toNat) (l' := fun y => [RefR y.1 y.2]) hf hx (Sub.refl _)
    (fun w hT => by
      exact (rdnew_con hn).mono fun e w' ⟨r', g', h1, g0, g1, h2⟩ => ⟨(r', g'), _, h1, ⟨rfl, g0, g1⟩, h2⟩) hd fun y v hv => by obtain ⟨rfl, g0, g1⟩ := hv; exact hr y.1 y.2 g0 g1
end
/- turntable/turntableref07.New -/
theorem rdnew0_con {n : Int} {w : World} (hn : ¬ (1 ≤ n ∧ n ≤ 4096)) :
    Calls Tryz.prog 7 #[.int .i64 n] w fun e w' => e = .returned (.pointer none) ∧ Tr w [] w' [] := by
  refine (rnew_con n).mono fun e w' h => ?_
  rcases h with ⟨_, h2, h3⟩ | ⟨r, g, h1, _⟩
  · exact ⟨h2, h3⟩
  · exact absurd h1 hn
section
variable {ops : Array Oper} {Q : Exit → Act → World → Prop} {N : Nat} {U : Env} {w0 : World} {L0 L F : List Res} {ty : TypeId} {rest : List Oper} {pos : String} {after : Array Edge} {xs : List Operand} {tys : Array TypeId} {dT : Tmp}
theorem ev_rdnew0_con {n : Int} (hf : ∀ args w, (callFunc 7 args).run Tryz.prog w = .ok (.enter 7 args) w) (hx : opvs U xs = some [.int .i64 n]) (hn : ¬ (1 ≤ n ∧ n ≤ 4096)) : Ev Tryz.prog U w0 L0 L (.call ⟨.value (.func 7), xs.toArray, tys⟩) ty (Is (.pointer none)) No :=
  K.e_call1 hf hx (fun w hT => by exact rdnew0_con hn)
end
/- turntable/dev.New -/
theorem dnew0_con {n : Int} {w : World} (hn : ¬ (1 ≤ n ∧ n ≤ 4096)) :
    Calls Tryz.prog 6 #[.int .i64 n] w fun e w' => e = .returned (.pointer none) ∧ Tr w [] w' [] := by
  refine (new_con n).mono fun e w' h => ?_
  rcases h with ⟨_, h2, h3⟩ | ⟨d, kb, mb, h1, _⟩
  · exact ⟨h2, h3⟩
  · exact absurd h1 hn
section
variable {ops : Array Oper} {Q : Exit → Act → World → Prop} {N : Nat} {U : Env} {w0 : World} {L0 L F : List Res} {ty : TypeId} {rest : List Oper} {pos : String} {after : Array Edge} {xs : List Operand} {tys : Array TypeId} {dT : Tmp}
theorem ev_dnew0_con {n : Int} (hf : ∀ args w, (callFunc 6 args).run Tryz.prog w = .ok (.enter 6 args) w) (hx : opvs U xs = some [.int .i64 n]) (hn : ¬ (1 ≤ n ∧ n ≤ 4096)) : Ev Tryz.prog U w0 L0 L (.call ⟨.value (.func 6), xs.toArray, tys⟩) ty (Is (.pointer none)) No :=
  K.e_call1 hf hx (fun w hT => by exact dnew0_con hn)
end
/- (*turntable/dev.Dev).Done -/
set_option maxHeartbeats 1000000 in
set_option maxRecDepth 100000 in
theorem ddone_con {d : Nat} {gd : DG} {s : DS} {w : World} (hs : gd.v = s) (hd : Disj [DevR d gd]) (ho : ∀ r ∈ ([DevR d gd] : List Res), r.ok w.heap) :
    Calls Tryz.prog 19 #[.pointer (some ⟨d, 0, none⟩)] w fun e w' => e = .returned (.int .i64 s.done) ∧ Tr w [DevR d gd] w' [DevR d gd] := by
  subst hs
  refine K.enter (args := [_]) Tryz.func19 rfl Tryz.ntmps19 rfl hd ho ?_
  refine K.GC.opened1 ?_
  refine K.GC.seq ?_
  refine K.GC.region ?_
  refine K.GL.det (K.e_assign rfl) rfl ?_
  refine K.GL.nil ?_
  refine K.GQ.go ?_
  refine K.GC.seq ?_
  refine K.GC.region ?_
  refine K.GL.det (K.e_move rfl) rfl ?_
  refine K.GL.det (K.e_nilCheck rfl) rfl ?_
  first | refine K.GL.det (K.e_fa fo60_3 rfl) rfl ?_ | refine K.GL.det (K.e_fieldAddr fo60_3 rfl) rfl ?_
  first | refine K.GL.det (K.e_ldE Tryz.isAgg3 rfl rfl (by assumption) rfl) rfl ?_ | refine K.GL.det (K.e_ldF Tryz.isAgg3 rfl rfl (by assumption) rfl) rfl ?_ | refine K.GL.det (K.e_load Tryz.isAgg3 rfl rfl) rfl ?_ | refine K.GL.det (K.e_load0 Tryz.isAgg3 rfl (by assumption)) rfl ?_
  refine K.GL.det (K.e_assign rfl) rfl ?_
  refine K.GL.nil ?_
  refine K.GQ.go ?_
  refine K.GC.ret ?_
  refine K.GQ.ret1 Tryz.results19 rfl (fun w hT => ?_)
  exact ⟨rfl, hT.one⟩
section
variable {ops : Array Oper} {Q : Exit → Act → World → Prop} {N : Nat} {U : Env} {w0 : World} {L0 L F : List Res} {ty : TypeId} {rest : List Oper} {pos : String} {after : Array Edge} {xs : List Operand} {tys : Array TypeId} {dT : Tmp}
theorem gl_ddone_con {d : Nat} {gd : DG} {s : DS}  {F1 : List Res}(hf : ∀ args w, (callFunc 19 args).run Tryz.prog w = .ok (.enter 19 args) w) (hx : opvs U xs = some [.pointer (some ⟨d, 0, none⟩)]) [p1 : PkD L d gd F1] (hs : gd.v = s) (hd : Nat.ble (dT + 1) N = true)
    (hr : GL Tryz.prog ops Q rest N ((dT, .int .i64 s.done) :: U) w0 L0 (DevR d gd :: F1)) : GL Tryz.prog ops Q (⟨some dT, .call ⟨.value (.func 19), xs.toArray, tys⟩, ty, pos, after, Option.none⟩ :: rest) N U w0 L0 L :=
  GL.callM (α := Unit) (l := [DevR d gd]) (Pv := fun _y v => v = .int .i64 s.done) (l' := fun _y => [DevR d gd]) hf hx (p1.out)
    (fun w hT => by
      have hT1 : Tr w0 L0 w ([DevR d gd] ++ F1) := hT.sub (p1.out); have hd0 := Disj.left hT1.disj; have ho0 := fun r hr => hT1.ok r (List.mem_append_left _ hr); exact (ddone_con hs hd0 ho0).mono fun e w' ⟨h1, h2⟩ => ⟨(), _, h1, rfl, h2⟩) hd fun _y v hv => by subst hv; exact hr  
end
section
variable {ops : Array Oper} {Q : Exit → Act → World → Prop} {N : Nat} {U : Env} {w0 : World} {L0 L F : List Res} {ty : TypeId} {rest : List Oper} {pos : String} {after : Array Edge} {xs : List Operand} {tys : Array TypeId} {dT : Tmp}
end
/- turntable/turntableref10.Slot -/
set_option maxHeartbeats 1000000 in
set_option maxRecDepth 100000 in
theorem rslot_con {n : Int} {w : World} :
    Calls Tryz.prog 25 #[.int .i64 n] w fun e w' => e = .returned (.int .i64 (n % 2)) ∧ Tr w [] w' [] := by
  refine K.enter0 (args := [_]) Tryz.func25 rfl Tryz.ntmps25 rfl ?_
  refine K.GC.seq ?_
  refine K.GC.region ?_
  refine K.GL.det (K.e_assign rfl) rfl ?_
  refine K.GL.nil ?_
  refine K.GQ.go ?_
  refine K.GC.seq ?_
  refine K.GC.region ?_
  refine K.GL.det (K.e_move rfl) rfl ?_
  refine K.GL.det (e_tmod2 rfl rfl) rfl ?_
  refine K.GL.det (K.e_assign rfl) rfl ?_
  refine K.GL.nil ?_
  refine K.GQ.go ?_
  refine K.GC.seq ?_
  refine K.GC.seq ?_
  refine K.GC.region ?_
  refine K.GL.det (K.e_move rfl) rfl ?_
  first | refine K.GL.det ((K.e_lt rfl rfl).yes (by first | omega | assumption | decide +kernel)) rfl ?_ | refine K.GL.det ((K.e_lt rfl rfl).no (by first | omega | assumption | decide +kernel)) rfl ?_ | refine K.GL.det (K.e_lt rfl rfl) rfl ?_
  refine K.GL.nil ?_
  refine K.GQ.go ?_
  refine K.GC.condB rfl (fun h1 => ?_) (fun h1 => ?_)
  · first
    | exact absurd h1 (by decide)
    | try replace h1 := of_decide_eq_true h1
      refine K.GC.region ?_
      refine K.GL.det (K.e_move rfl) rfl ?_
      refine K.GL.det (e_neg64 rfl (by have := tmod_two n; omega) (by have := tmod_two n; omega)) rfl ?_
      refine K.GL.det (K.e_assign rfl) rfl ?_
      refine K.GL.nil ?_
      refine K.GQ.go ?_
      refine K.GC.seq ?_
      refine K.GC.region ?_
      refine K.GL.det (K.e_move rfl) rfl ?_
      refine K.GL.det (K.e_assign rfl) rfl ?_
      refine K.GL.nil ?_
      refine K.GQ.go ?_
      refine K.GC.ret ?_
      refine K.GQ.ret1 Tryz.results25 rfl (fun w hT => ?_)
      have htm := tmod_two n
      exact ⟨by congr 2; omega, hT.nil⟩
  · first
    | exact absurd h1 (by decide)
    | try replace h1 := of_decide_eq_false h1
      refine K.GC.skip ?_
      refine K.GQ.go ?_
      refine K.GC.seq ?_
      refine K.GC.region ?_
      refine K.GL.det (K.e_move rfl) rfl ?_
      refine K.GL.det (K.e_assign rfl) rfl ?_
      refine K.GL.nil ?_
      refine K.GQ.go ?_
      refine K.GC.ret ?_
      refine K.GQ.ret1 Tryz.results25 rfl (fun w hT => ?_)
      have htm := tmod_two n
      exact ⟨by congr 2; omega, hT.nil⟩
section
variable {ops : Array Oper} {Q : Exit → Act → World → Prop} {N : Nat} {U : Env} {w0 : World} {L0 L F : List Res} {ty : TypeId} {rest : List Oper} {pos : String} {after : Array Edge} {xs : List Operand} {tys : Array TypeId} {dT : Tmp}
theorem ev_rslot_con {n : Int} (hf : ∀ args w, (callFunc 25 args).run Tryz.prog w = .ok (.enter 25 args) w) (hx : opvs U xs = some [.int .i64 n]) : Ev Tryz.prog U w0 L0 L (.call ⟨.value (.func 25), xs.toArray, tys⟩) ty (Is (.int .i64 (n % 2))) No :=
  K.e_call1 hf hx (fun w hT => by exact rslot_con )
end
/- turntable/turntableref10.Load -/
set_option maxHeartbeats 4000000 in
set_option maxRecDepth 100000 in
theorem rload_con {rp : Nat} {g : RG} {s : DS} {w : World} (hk : g.Ok) (hs : g.s = s) (hd : Disj [RefR rp g]) (ho : ∀ r ∈ ([RefR rp g] : List Res), r.ok w.heap) :
    Calls Tryz.prog 17 #[.pointer (some ⟨rp, 0, none⟩)] w fun e w' => ∃ a' : Option Addr, ∃ c' : Nat, e = .returned (.tuple #[.agg (tabC (s.load).1 a' c').toArray, .bool (s.load).2.1, .int .i64 (s.load).2.2]) ∧ Tr w [RefR rp g] w' [trow a' c' 82 encX (s.load).1.exts, RefR rp g] := by
  refine K.enter (args := [_]) Tryz.func17 rfl Tryz.ntmps17 rfl hd ho ?_
  refine K.GC.seq ?_
  refine K.GC.region ?_
  refine K.GL.alloc Tryz.zeroValue31 rfl rfl (fun b2 => ?_)
  refine K.GL.det (K.e_assign rfl) rfl ?_
  refine K.GL.det (K.e_assign rfl) rfl ?_
  refine K.GL.nil ?_
  refine K.GQ.go ?_
  refine K.GC.seq ?_
  refine K.GC.region ?_
  refine K.GL.alloc Tryz.zeroValue31 rfl rfl (fun b5 => ?_)
  refine K.GL.nil ?_
  refine K.GQ.go ?_
  refine K.GC.seq ?_
  refine K.GC.region ?_
  refine K.GL.det (K.e_assign rfl) rfl ?_
  refine K.GL.nil ?_
  refine K.GQ.go ?_
  refine K.GC.seq ?_
  refine K.GC.seq ?_
  refine K.GC.region ?_
  refine K.GL.det (K.e_assign rfl) rfl ?_
  refine K.GL.nil ?_
  refine K.GQ.go ?_
  refine K.GC.block ?_
  refine K.GC.trow0 82 encX ?_
  refine K.GC.loopk (α := Nat × Option Addr × Nat) [0, 2, 5, 47, 48] rfl (fun x => [(6, .bool (decide (0 < (loadN s x.1).gen))), (7, .int .i64 (x.1 : Int))]) (fun x => [trow x.2.1 x.2.2 82 encX (loadN s x.1).exts, cl b5 31 (tabC (loadN s x.1) x.2.1 x.2.2), cl b2 31 (tabC ⟨0, 0, []⟩ none 0), RefR rp g]) (fun x => x.1 ≤ 2 ∧ ∀ y : Nat, y < x.1 → (s.read (y : Int)).2 = 0) (fun x => (2 - x.1)) (0, none, 0) ⟨Nat.zero_le _, fun y h => absurd h (by simp)⟩ (by first | ((repeat refine ⟨rfl, ?_⟩); exact trivial) | (simp only [List.take_zero, List.map_nil, List.flatMap_nil, List.append_nil]; (repeat refine ⟨rfl, ?_⟩); exact trivial)) (K.Sub.refl _) (fun x hI => ?_)
  obtain ⟨x, a1, c1⟩ := x
  simp only at hI ⊢
  obtain ⟨hI, hI2⟩ := hI
  refine K.GC.seq ?_
  refine K.GC.seq ?_
  refine K.GC.region ?_
  refine K.GL.det (K.e_move rfl) rfl ?_
  first | refine K.GL.det ((K.e_lt rfl rfl).yes (by first | omega | assumption | decide +kernel)) rfl ?_ | refine K.GL.det ((K.e_lt rfl rfl).no (by first | omega | assumption | decide +kernel)) rfl ?_ | refine K.GL.det (K.e_lt rfl rfl) rfl ?_
  refine K.GL.nil ?_
  refine K.GQ.go ?_
  refine K.GC.condB rfl (fun h1 => ?_) (fun h1 => ?_)
  · first
    | exact absurd h1 (by decide)
    | try replace h1 := of_decide_eq_true h1
      refine K.GC.skip ?_
      refine K.GQ.go ?_
      refine K.GC.seq ?_
      refine K.GC.block ?_
      refine K.GC.seq ?_
      have hgx := loadN_gen s x
      refine K.GC.region ?_
      refine K.GL.det (K.e_move rfl) rfl ?_
      refine K.GL.det (K.e_move rfl) rfl ?_
      refine gl_rdread_con (i := (x : Int)) Tryz.call43 rfl (by first | assumption | omega | rfl | decide) (by first | assumption | omega | rfl | decide) rfl (fun a19 c19 hc19 => ?_)
      refine K.GL.det (K.e_move rfl) rfl ?_
      refine K.GL.det (K.e_extract rfl rfl) rfl ?_
      refine K.GL.det (K.e_extract rfl rfl) rfl ?_
      refine K.GL.det (K.e_assign rfl) rfl ?_
      refine K.GL.det (K.e_assign rfl) rfl ?_
      refine K.GL.nil ?_
      refine K.GQ.go ?_
      refine K.GC.seq ?_
      refine K.GC.seq ?_
      refine K.GC.region ?_
      refine K.GL.det (K.e_move rfl) rfl ?_
      first | refine K.GL.det ((K.e_ne rfl rfl).yes (by first | omega | assumption | decide +kernel)) rfl ?_ | refine K.GL.det ((K.e_ne rfl rfl).no (by first | omega | assumption | decide +kernel)) rfl ?_ | refine K.GL.det (K.e_ne rfl rfl) rfl ?_
      refine K.GL.nil ?_
      refine K.GQ.go ?_
      refine K.GC.condB rfl (fun h2 => ?_) (fun h2 => ?_)
      · first
        | exact absurd h2 (by decide)
        | try replace h2 := of_decide_eq_true h2
          refine K.GC.seq ?_
          refine K.GC.region ?_
          refine K.GL.det (K.e_build lay31 rfl) rfl ?_
          refine K.GL.det (K.e_move rfl) rfl ?_
          refine K.GL.storeP (vs := tabC ⟨0, 0, []⟩ none 0) (cs' := tabC ⟨0, 0, []⟩ none 0) rfl rfl rfl Tryz.sizeOf31 rfl rfl (by exact spliceO_all rfl) ?_
          refine K.GL.det (K.e_assign rfl) rfl ?_
          refine K.GL.det (K.e_assign rfl) rfl ?_
          refine K.GL.nil ?_
          refine K.GQ.go ?_
          refine K.GC.ret ?_
          refine K.GQ.then_ret ?_
          refine K.GQ.block_ret ?_
          refine K.GQ.then_ret ?_
          refine K.GQ.then_ret ?_
          refine K.GQ.block_ret ?_
          refine K.GQ.then_ret ?_
          refine K.GQ.ret_ctt Tryz.results17 Tryz.isAgg31 Tryz.sizeOf31 rfl rfl rfl rfl (fun w hT => ?_)
          first
            | (have hsl := load_bad (s := s) (x := x) (by omega) hI2 (by assumption)
               rw [hsl]
               exact ⟨none, 0, rfl, (hT.sub (L' := [RefR rp g]) K.sb).trow_nil 82 encX⟩)
            | (have hsl := load_ok hI2
               rw [hsl]
               exact ⟨a1, c1, rfl, hT.sub K.sb⟩)
      · first
        | exact absurd h2 (by decide)
        | try replace h2 := of_decide_eq_false h2
          refine K.GC.skip ?_
          refine K.GQ.go ?_
          refine K.GC.seq ?_
          refine K.GC.region ?_
          refine K.GL.det (K.e_move rfl) rfl ?_
          refine gl_rtget_con (l := (s.read (x : Int)).1) Tryz.call44 rfl (by first | assumption | omega | rfl | decide) (by have := read_len s (x : Int); omega) rfl (fun a28 c28 => ?_)
          refine K.GL.det (K.e_move rfl) rfl ?_
          refine K.GL.det (K.e_extract rfl rfl) rfl ?_
          refine K.GL.det (K.e_extract rfl rfl) rfl ?_
          refine K.GL.alloc Tryz.zeroValue31 rfl rfl (fun b10 => ?_)
          refine K.GL.storeP (vs := tabC (getT (s.read (x : Int)).1) a28 c28) (cs' := tabC (getT (s.read (x : Int)).1) a28 c28) rfl rfl rfl Tryz.sizeOf31 rfl rfl (by exact spliceO_all rfl) ?_
          refine K.GL.det (K.e_assign rfl) rfl ?_
          refine K.GL.nil ?_
          refine K.GQ.go ?_
          refine K.GC.seq ?_
          refine K.GC.region ?_
          refine K.GL.det (K.e_move rfl) rfl ?_
          refine K.GL.det (K.e_move rfl) rfl ?_
          first | refine K.GL.splitB 32 rfl (fun h3 => ?_) (fun h3 => ?_) | skip
          all_goals first | exact absurd h3 (by decide) | replace h3 := of_decide_eq_true h3 | replace h3 := of_decide_eq_false h3 | skip
          all_goals
            first | (refine K.GL.want 32 rfl rfl rfl ?_; first | refine K.GL.det (K.e_fa fo31_0 rfl) rfl ?_ | refine K.GL.det (K.e_fieldAddr fo31_0 rfl) rfl ?_) | refine K.GL.skip 32 rfl rfl rfl rfl ?_ | refine K.GL.skipU 32 rfl rfl rfl rfl ?_
            first | (refine K.GL.want 32 rfl rfl rfl ?_; first | refine K.GL.det (K.e_ldE Tryz.isAgg2 rfl rfl (by assumption) rfl) rfl ?_ | refine K.GL.det (K.e_ldF Tryz.isAgg2 rfl rfl (by assumption) rfl) rfl ?_ | refine K.GL.det (K.e_load Tryz.isAgg2 rfl rfl) rfl ?_ | refine K.GL.det (K.e_load0 Tryz.isAgg2 rfl (by assumption)) rfl ?_) | refine K.GL.skip 32 rfl rfl rfl rfl ?_ | refine K.GL.skipU 32 rfl rfl rfl rfl ?_
            first | (refine K.GL.want 32 rfl rfl rfl ?_; first | refine K.GL.det (ev_rslot_con Tryz.call25 rfl ) rfl ?_) | refine K.GL.skip 32 rfl rfl rfl rfl ?_ | refine K.GL.skipU 32 rfl rfl rfl rfl ?_
            first | (refine K.GL.want 32 rfl rfl rfl ?_; first | refine K.GL.det (K.e_move rfl) rfl ?_) | refine K.GL.skip 32 rfl rfl rfl rfl ?_ | refine K.GL.skipU 32 rfl rfl rfl rfl ?_
            first | (refine K.GL.want 32 rfl rfl rfl ?_; first | refine K.GL.det ((K.e_eq rfl rfl).yes (by first | omega | assumption | decide +kernel)) rfl ?_ | refine K.GL.det ((K.e_eq rfl rfl).no (by first | omega | assumption | decide +kernel)) rfl ?_ | refine K.GL.det (K.e_eq rfl rfl) rfl ?_) | refine K.GL.skip 32 rfl rfl rfl rfl ?_ | refine K.GL.skipU 32 rfl rfl rfl rfl ?_
            first | refine K.GL.det (K.e_pick_t rfl rfl) rfl ?_ | refine K.GL.det (K.e_pick_f rfl rfl) rfl ?_
            refine K.GL.det (K.e_move rfl) rfl ?_
            first | refine K.GL.splitB 39 rfl (fun h4 => ?_) (fun h4 => ?_) | skip
            all_goals first | exact absurd h4 (by decide) | replace h4 := of_decide_eq_true h4 | replace h4 := of_decide_eq_false h4 | skip
            all_goals
              first | (refine K.GL.want 39 rfl rfl rfl ?_; first | refine K.GL.det (K.e_fa fo31_0 rfl) rfl ?_ | refine K.GL.det (K.e_fieldAddr fo31_0 rfl) rfl ?_) | refine K.GL.skip 39 rfl rfl rfl rfl ?_ | refine K.GL.skipU 39 rfl rfl rfl rfl ?_
              first | (refine K.GL.want 39 rfl rfl rfl ?_; first | refine K.GL.det (K.e_ldE Tryz.isAgg2 rfl rfl (by assumption) rfl) rfl ?_ | refine K.GL.det (K.e_ldF Tryz.isAgg2 rfl rfl (by assumption) rfl) rfl ?_ | refine K.GL.det (K.e_load Tryz.isAgg2 rfl rfl) rfl ?_ | refine K.GL.det (K.e_load0 Tryz.isAgg2 rfl (by assumption)) rfl ?_) | refine K.GL.skip 39 rfl rfl rfl rfl ?_ | refine K.GL.skipU 39 rfl rfl rfl rfl ?_
              first | (refine K.GL.want 39 rfl rfl rfl ?_; first | refine K.GL.det (K.e_fa fo31_0 rfl) rfl ?_ | refine K.GL.det (K.e_fieldAddr fo31_0 rfl) rfl ?_) | refine K.GL.skip 39 rfl rfl rfl rfl ?_ | refine K.GL.skipU 39 rfl rfl rfl rfl ?_
              first | (refine K.GL.want 39 rfl rfl rfl ?_; first | refine K.GL.det (K.e_ldE Tryz.isAgg2 rfl rfl (by assumption) rfl) rfl ?_ | refine K.GL.det (K.e_ldF Tryz.isAgg2 rfl rfl (by assumption) rfl) rfl ?_ | refine K.GL.det (K.e_load Tryz.isAgg2 rfl rfl) rfl ?_ | refine K.GL.det (K.e_load0 Tryz.isAgg2 rfl (by assumption)) rfl ?_) | refine K.GL.skip 39 rfl rfl rfl rfl ?_ | refine K.GL.skipU 39 rfl rfl rfl rfl ?_
              first | (refine K.GL.want 39 rfl rfl rfl ?_; first | refine K.GL.det ((K.e_gt rfl rfl).yes (by first | omega | assumption | decide +kernel)) rfl ?_ | refine K.GL.det ((K.e_gt rfl rfl).no (by first | omega | assumption | decide +kernel)) rfl ?_ | refine K.GL.det (K.e_gt rfl rfl) rfl ?_) | refine K.GL.skip 39 rfl rfl rfl rfl ?_ | refine K.GL.skipU 39 rfl rfl rfl rfl ?_
              first | refine K.GL.det (K.e_pick_t rfl rfl) rfl ?_ | refine K.GL.det (K.e_pick_f rfl rfl) rfl ?_
              refine K.GL.nil ?_
              refine K.GQ.go ?_
              refine K.GC.condB rfl (fun h5 => ?_) (fun h5 => ?_)
              · first
                | exact absurd h5 (by decide)
                | try replace h5 := of_decide_eq_true h5
                  refine K.GC.seq ?_
                  refine K.GC.region ?_
                  first | refine K.GL.det (K.e_ldA Tryz.isAgg31 Tryz.sizeOf31 rfl rfl (by assumption)) rfl ?_ | refine K.GL.det (K.e_ldAF Tryz.isAgg31 Tryz.sizeOf31 rfl rfl (by assumption) rfl) rfl ?_ | refine K.GL.det (K.e_loads Tryz.isAgg31 Tryz.sizeOf31 rfl rfl) rfl ?_
                  refine K.GL.storeP (vs := tabC (getT (s.read (x : Int)).1) a28 c28) (cs' := tabC (getT (s.read (x : Int)).1) a28 c28) rfl rfl rfl Tryz.sizeOf31 rfl rfl (by exact spliceO_all rfl) ?_
                  refine K.GL.nil ?_
                  refine K.GQ.go ?_
                  refine K.GC.region ?_
                  refine K.GL.det (K.e_assign rfl) rfl ?_
                  refine K.GL.nil ?_
                  refine K.GQ.block_normal ?_
                  refine K.GQ.go ?_
                  refine K.GC.region ?_
                  refine K.GL.det (K.e_move rfl) rfl ?_
                  first | refine K.GL.det (K.e_add rfl rfl ⟨by omega, by omega⟩) rfl ?_ | refine K.GL.det (K.e_addw rfl rfl) rfl ?_
                  refine K.GL.det (K.e_assign rfl) rfl ?_
                  refine K.GL.nil ?_
                  have hnx : ∀ y : Nat, y < x + 1 → (s.read (y : Int)).2 = 0 := fun y hy => by
                    rcases Nat.lt_or_ge y x with h | h
                    · exact hI2 y h
                    · obtain rfl : y = x := by omega
                      exact Classical.not_not.1 (by assumption)
                  first
                    | (have hlN := load_yes (s := s) (x := x) (by assumption) (by assumption) (by assumption)
                       have hdt : decide (0 < (getT (s.read (x : Int)).1).gen) = true := decide_eq_true (by omega)
                       exact K.GQ.round (x + 1, a28, c28) ⟨by simp only; omega, hnx⟩ (by simp only; omega) (by simp only [hlN, hdt]; (repeat refine ⟨rfl, ?_⟩); exact trivial) (by simp only [hlN]; exact K.sb))
                    | (have hlN := load_no (s := s) (x := x) (fun h1 h2 h3 => by simp_all; done)
                       exact K.GQ.round (x + 1, a1, c1) ⟨by simp only; omega, hnx⟩ (by simp only; omega) (by simp only [hlN]; (repeat refine ⟨rfl, ?_⟩); exact trivial) (by simp only [hlN]; exact K.sb))
              · first
                | exact absurd h5 (by decide)
                | try replace h5 := of_decide_eq_false h5
                  refine K.GC.skip ?_
                  refine K.GQ.block_normal ?_
                  refine K.GQ.go ?_
                  refine K.GC.region ?_
                  refine K.GL.det (K.e_move rfl) rfl ?_
                  first | refine K.GL.det (K.e_add rfl rfl ⟨by omega, by omega⟩) rfl ?_ | refine K.GL.det (K.e_addw rfl rfl) rfl ?_
                  refine K.GL.det (K.e_assign rfl) rfl ?_
                  refine K.GL.nil ?_
                  have hnx : ∀ y : Nat, y < x + 1 → (s.read (y : Int)).2 = 0 := fun y hy => by
                    rcases Nat.lt_or_ge y x with h | h
                    · exact hI2 y h
                    · obtain rfl : y = x := by omega
                      exact Classical.not_not.1 (by assumption)
                  first
                    | (have hlN := load_yes (s := s) (x := x) (by assumption) (by assumption) (by assumption)
                       have hdt : decide (0 < (getT (s.read (x : Int)).1).gen) = true := decide_eq_true (by omega)
                       exact K.GQ.round (x + 1, a28, c28) ⟨by simp only; omega, hnx⟩ (by simp only; omega) (by simp only [hlN, hdt]; (repeat refine ⟨rfl, ?_⟩); exact trivial) (by simp only [hlN]; exact K.sb))
                    | (have hlN := load_no (s := s) (x := x) (fun h1 h2 h3 => by simp_all; done)
                       exact K.GQ.round (x + 1, a1, c1) ⟨by simp only; omega, hnx⟩ (by simp only; omega) (by simp only [hlN]; (repeat refine ⟨rfl, ?_⟩); exact trivial) (by simp only [hlN]; exact K.sb))
  · first
    | exact absurd h1 (by decide)
    | try replace h1 := of_decide_eq_false h1
      refine K.GC.exit ?_
      refine K.GQ.then_exit ?_
      refine K.GQ.then_exit ?_
      refine K.GQ.block_hit ?_
      refine K.GQ.go ?_
      refine K.GC.seq ?_
      obtain rfl : x = 2 := by omega
      refine K.GC.region ?_
      first | refine K.GL.det (K.e_ldA Tryz.isAgg31 Tryz.sizeOf31 rfl rfl (by assumption)) rfl ?_ | refine K.GL.det (K.e_ldAF Tryz.isAgg31 Tryz.sizeOf31 rfl rfl (by assumption) rfl) rfl ?_ | refine K.GL.det (K.e_loads Tryz.isAgg31 Tryz.sizeOf31 rfl rfl) rfl ?_
      refine K.GL.det (K.e_move rfl) rfl ?_
      refine K.GL.storeP (vs := tabC (loadN s 2) a1 c1) (cs' := tabC (loadN s 2) a1 c1) rfl rfl rfl Tryz.sizeOf31 rfl rfl (by exact spliceO_all rfl) ?_
      refine K.GL.det (K.e_assign rfl) rfl ?_
      refine K.GL.det (K.e_assign rfl) rfl ?_
      refine K.GL.nil ?_
      refine K.GQ.go ?_
      refine K.GC.ret ?_
      refine K.GQ.ret_ctt Tryz.results17 Tryz.isAgg31 Tryz.sizeOf31 rfl rfl rfl rfl (fun w hT => ?_)
      first
        | (have hsl := load_bad (s := s) (x := x) (by omega) hI2 (by assumption)
           rw [hsl]
           exact ⟨none, 0, rfl, (hT.sub (L' := [RefR rp g]) K.sb).trow_nil 82 encX⟩)
        | (have hsl := load_ok hI2
           rw [hsl]
           exact ⟨a1, c1, rfl, hT.sub K.sb⟩)
section
variable {ops : Array Oper} {Q : Exit → Act → World → Prop} {N : Nat} {U : Env} {w0 : World} {L0 L F : List Res} {ty : TypeId} {rest : List Oper} {pos : String} {after : Array Edge} {xs : List Operand} {tys : Array TypeId} {dT : Tmp}
theorem gl_rload_con {rp : Nat} {g : RG} {s : DS}  {F1 : List Res}(hf : ∀ args w, (callFunc 17 args).run Tryz.prog w = .ok (.enter 17 args) w) (hx : opvs U xs = some [.pointer (some ⟨rp, 0, none⟩)]) [p1 : PkR L rp g F1] (hk : g.Ok) (hs : g.s = s) (hd : Nat.ble (dT + 1) N = true)
    (hr : ∀ (a' : Option Addr) (c' : Nat), GL Tryz.prog ops Q rest N ((dT, .tuple #[.agg (tabC (s.load).1 a' c').toArray, .bool (s.load).2.1, .int .i64 (s.load).2.2]) :: U) w0 L0 (trow a' c' 82 encX (s.load).1.exts :: RefR rp g :: F1)) : GL Tryz.prog ops Q (⟨some dT, .call ⟨.value (.func 17), xs.toArray, tys⟩, ty, pos, after, Option.none⟩ :: rest) N U w0 L0 L :=
  GL.callM (α := (Option Addr) × (Nat)) (l := [RefR rp g]) (Pv := fun y v => v = .tuple #[.agg (tabC (s.load).1 y.1 y.2).toArray, .bool (s.load).2.1, .int .i64 (s.load).2.2]) (l' := fun y => [trow y.1 y.2 82 encX (s.load).1.exts, RefR rp g]) hf hx (p1.out)
    (fun w hT => by
      have hT1 : Tr w0 L0 w ([RefR rp g] ++ F1) := hT.sub (p1.out); have hd0 := Disj.left hT1.disj; have ho0 := fun r hr => hT1.ok r (List.mem_append_left _ hr); exact (rload_con hk hs hd0 ho0).mono fun e w' ⟨a', c', h1, h2⟩ => ⟨(a', c'), _, h1, rfl, h2⟩) hd fun y v hv => by subst hv; exact hr y.1 y.2 
end
/- turntable/turntableref10.Save -/
set_option maxHeartbeats 1000000 in
set_option maxRecDepth 100000 in
theorem rsave_con {rp : Nat} {g : RG} {s : DS} {t : Tab} {a : Option Addr} {c : Nat} {w : World} (hk : g.Ok) (hs : g.s = s) (hl : t.exts.length ≤ 9223372036854775807) [Old w [RefR rp g] a (encX) (t.exts)] (hd : Disj [RefR rp g]) (ho : ∀ r ∈ ([RefR rp g] : List Res), r.ok w.heap) :
    Calls Tryz.prog 9 #[.pointer (some ⟨rp, 0, none⟩), .agg (tabC t a c).toArray] w fun e w' => ∃ g' : RG, e = .returned (.int .i64 (s.save t).2) ∧ g'.Ok ∧ g'.s = (s.save t).1 ∧ Tr w [RefR rp g] w' [RefR rp g'] := by
  refine K.enter (args := [_, _]) Tryz.func9 rfl Tryz.ntmps9 rfl hd ho ?_
  refine K.GC.seq ?_
  refine K.GC.region ?_
  refine K.GL.box rfl rfl rfl (fun b3 => ?_)
  refine K.GL.det (K.e_assign rfl) rfl ?_
  refine K.GL.nil ?_
  refine K.GQ.go ?_
  refine K.GC.seq ?_
  refine K.GC.seq ?_
  refine K.GC.region ?_
  first | refine K.GL.det (K.e_ldA Tryz.isAgg31 Tryz.sizeOf31 rfl rfl (by assumption)) rfl ?_ | refine K.GL.det (K.e_ldAF Tryz.isAgg31 Tryz.sizeOf31 rfl rfl (by assumption) rfl) rfl ?_ | refine K.GL.det (K.e_loads Tryz.isAgg31 Tryz.sizeOf31 rfl rfl) rfl ?_
  refine K.GL.det (ev_rright_con Tryz.call32 rfl (by first | assumption | omega | rfl | decide)) rfl ?_
  first | refine K.GL.det (K.e_notp rfl) rfl ?_ | refine K.GL.det (K.e_not rfl) rfl ?_
  refine K.GL.nil ?_
  refine K.GQ.go ?_
  refine K.GC.condB rfl (fun h1 => ?_) (fun h1 => ?_)
  · first
    | exact absurd h1 (by decide)
    | try replace h1 := of_decide_eq_true h1
      refine K.GC.seq ?_
      refine K.GC.region ?_
      refine K.GL.det (K.e_assign rfl) rfl ?_
      refine K.GL.nil ?_
      refine K.GQ.go ?_
      refine K.GC.ret ?_
      refine K.GQ.then_ret ?_
      refine K.GQ.ret1 Tryz.results9 rfl (fun w hT => ?_)
      first
        | (have hsv : s.save t = (s, 1) := by unfold DS.save; rw [if_neg (by simp_all)]
           rw [hsv]
           exact ⟨g, rfl, hk, hs, hT.sub K.sb⟩)
        | (have hR : rightB t = true := by simp_all
           have hsv : s.save t = (s.flush.1.write (t.gen % 2) (putT t)).1.flush := by unfold DS.save DS.save3; rw [if_pos hR, if_neg (by simp_all), if_neg (by simp_all)]
           rw [hsv]
           exact ⟨g23, rfl, hk23, hv23, hT.sub K.sb⟩)
        | (have hR : rightB t = true := by simp_all
           have hsv : s.save t = s.flush.1.write (t.gen % 2) (putT t) := by unfold DS.save DS.save3; rw [if_pos hR, if_neg (by simp_all), if_pos (by simp_all)]
           rw [hsv]
           exact ⟨g19, rfl, hk19, hv19, hT.sub K.sb⟩)
        | (have hR : rightB t = true := by simp_all
           have hsv : s.save t = s.flush := by unfold DS.save DS.save3; rw [if_pos hR, if_pos (by simp_all)]
           rw [hsv]
           exact ⟨g10, rfl, hk10, hv10, hT.sub K.sb⟩)
        | (exfalso; simp_all)
  · first
    | exact absurd h1 (by decide)
    | try replace h1 := of_decide_eq_false h1
      refine K.GC.skip ?_
      refine K.GQ.go ?_
      refine K.GC.seq ?_
      refine K.GC.region ?_
      refine K.GL.det (K.e_move rfl) rfl ?_
      refine gl_rdflush_con (s := s) Tryz.call33 rfl hk hs rfl (fun g10 hk10 hv10 => ?_)
      refine K.GL.det (K.e_assign rfl) rfl ?_
      refine K.GL.nil ?_
      refine K.GQ.go ?_
      refine K.GC.seq ?_
      refine K.GC.seq ?_
      refine K.GC.region ?_
      refine K.GL.det (K.e_move rfl) rfl ?_
      first | refine K.GL.det ((K.e_eq rfl rfl).yes (by first | omega | assumption | decide +kernel)) rfl ?_ | refine K.GL.det ((K.e_eq rfl rfl).no (by first | omega | assumption | decide +kernel)) rfl ?_ | refine K.GL.det (K.e_eq rfl rfl) rfl ?_
      refine K.GL.nil ?_
      refine K.GQ.go ?_
      refine K.GC.condB rfl (fun h2 => ?_) (fun h2 => ?_)
      · first
        | exact absurd h2 (by decide)
        | try replace h2 := of_decide_eq_true h2
          refine K.D.GC.drawn0 6 [[], [], [1], [1, 2], [], [1, 2, 3, 4], [0, 1, 2, 3, 4, 5], [0, 1, 2, 3, 4, 5, 6]] [[], [], [1], [2], [], [4]] [[], [], [], [], [], []] [[], [], [], [], [], []] [5] [0, 3, 4, 5, 19, 20, 21, 22, 23, 24] (by kernel_rfl) (by kernel_rfl) (by kernel_rfl) rfl ?_
          refine K.D.DW.det (b := []) (u := []) rfl rfl rfl (fun vs hf => K.e_move rfl) ?_
          first | refine K.D.DW.det (b := []) (u := []) rfl rfl rfl (fun vs hf => K.e_fa fo31_0 rfl) ?_ | refine K.D.DW.det (b := []) (u := []) rfl rfl rfl (fun vs hf => K.e_fieldAddr fo31_0 rfl) ?_
          first | refine K.D.DW.det (b := [1]) (u := []) rfl rfl rfl (fun vs hf => K.e_ldE Tryz.isAgg2 rfl rfl (by assumption) rfl) ?_ | refine K.D.DW.det (b := [1]) (u := []) rfl rfl rfl (fun vs hf => K.e_ldF Tryz.isAgg2 rfl rfl (by assumption) rfl) ?_ | refine K.D.DW.det (b := [1]) (u := []) rfl rfl rfl (fun vs hf => K.e_load Tryz.isAgg2 rfl rfl) ?_ | refine K.D.DW.det (b := [1]) (u := []) rfl rfl rfl (fun vs hf => K.e_load0 Tryz.isAgg2 rfl (by assumption)) ?_
          refine K.D.DW.det (b := [2]) (u := []) rfl rfl rfl (fun vs hf => ev_rslot_con Tryz.call25 rfl ) ?_
          first | refine K.D.DW.det (b := []) (u := []) rfl rfl rfl (fun vs hf => K.e_ldA Tryz.isAgg31 Tryz.sizeOf31 rfl rfl (by assumption)) ?_ | refine K.D.DW.det (b := []) (u := []) rfl rfl rfl (fun vs hf => K.e_ldAF Tryz.isAgg31 Tryz.sizeOf31 rfl rfl (by assumption) rfl) ?_ | refine K.D.DW.det (b := []) (u := []) rfl rfl rfl (fun vs hf => K.e_loads Tryz.isAgg31 Tryz.sizeOf31 rfl rfl) ?_
          refine K.D.DW.ev0 (b := [4]) (u := []) (a := []) rfl rfl rfl (fun vs hf => show K.D.EvM _ _ _ _ (_) [] _ _ _ _ _ from em_rtput_con Tryz.call34 rfl (by first | assumption | omega | rfl | decide)) ?_
          refine K.D.DW.fin (fun vs hf => ?_)
          refine K.GL.keep [0, 4, 5, 13, 16, 18, 19, 20, 21, 22, 23, 24] rfl ?_
          refine K.D.GL.res1 rfl ?_
          try dsimp only
          clear hf
          generalize (vs 5 0).1 = a18, (vs 5 0).2 = c18
          try clear vs
          refine gl_rdwrite_con (s := s.flush.1) (bs := (putT t)) (i := (t.gen % 2)) Tryz.call15 rfl hk10 hv10 rfl (fun g19 hk19 hv19 => ?_)
          refine K.GL.det (K.e_assign rfl) rfl ?_
          refine K.GL.nil ?_
          refine K.GQ.go ?_
          refine K.GC.seq ?_
          refine K.GC.seq ?_
          refine K.GC.region ?_
          refine K.GL.det (K.e_move rfl) rfl ?_
          first | refine K.GL.det ((K.e_eq rfl rfl).yes (by first | omega | assumption | decide +kernel)) rfl ?_ | refine K.GL.det ((K.e_eq rfl rfl).no (by first | omega | assumption | decide +kernel)) rfl ?_ | refine K.GL.det (K.e_eq rfl rfl) rfl ?_
          refine K.GL.nil ?_
          refine K.GQ.go ?_
          refine K.GC.condB rfl (fun h3 => ?_) (fun h3 => ?_)
          · first
            | exact absurd h3 (by decide)
            | try replace h3 := of_decide_eq_true h3
              refine K.GC.region ?_
              refine K.GL.det (K.e_move rfl) rfl ?_
              refine gl_rdflush_con (s := (s.flush.1.write (t.gen % 2) (putT t)).1) Tryz.call33 rfl hk19 hv19 rfl (fun g23 hk23 hv23 => ?_)
              refine K.GL.det (K.e_assign rfl) rfl ?_
              refine K.GL.nil ?_
              refine K.GQ.go ?_
              refine K.GC.seq ?_
              refine K.GC.region ?_
              refine K.GL.det (K.e_move rfl) rfl ?_
              refine K.GL.det (K.e_assign rfl) rfl ?_
              refine K.GL.nil ?_
              refine K.GQ.go ?_
              refine K.GC.ret ?_
              refine K.GQ.ret1 Tryz.results9 rfl (fun w hT => ?_)
              first
                | (have hsv : s.save t = (s, 1) := by unfold DS.save; rw [if_neg (by simp_all)]
                   rw [hsv]
                   exact ⟨g, rfl, hk, hs, hT.sub K.sb⟩)
                | (have hR : rightB t = true := by simp_all
                   have hsv : s.save t = (s.flush.1.write (t.gen % 2) (putT t)).1.flush := by unfold DS.save DS.save3; rw [if_pos hR, if_neg (by simp_all), if_neg (by simp_all)]
                   rw [hsv]
                   exact ⟨g23, rfl, hk23, hv23, hT.sub K.sb⟩)
                | (have hR : rightB t = true := by simp_all
                   have hsv : s.save t = s.flush.1.write (t.gen % 2) (putT t) := by unfold DS.save DS.save3; rw [if_pos hR, if_neg (by simp_all), if_pos (by simp_all)]
                   rw [hsv]
                   exact ⟨g19, rfl, hk19, hv19, hT.sub K.sb⟩)
                | (have hR : rightB t = true := by simp_all
                   have hsv : s.save t = s.flush := by unfold DS.save DS.save3; rw [if_pos hR, if_pos (by simp_all)]
                   rw [hsv]
                   exact ⟨g10, rfl, hk10, hv10, hT.sub K.sb⟩)
                | (exfalso; simp_all)
          · first
            | exact absurd h3 (by decide)
            | try replace h3 := of_decide_eq_false h3
              refine K.GC.skip ?_
              refine K.GQ.go ?_
              refine K.GC.seq ?_
              refine K.GC.region ?_
              refine K.GL.det (K.e_move rfl) rfl ?_
              refine K.GL.det (K.e_assign rfl) rfl ?_
              refine K.GL.nil ?_
              refine K.GQ.go ?_
              refine K.GC.ret ?_
              refine K.GQ.ret1 Tryz.results9 rfl (fun w hT => ?_)
              first
                | (have hsv : s.save t = (s, 1) := by unfold DS.save; rw [if_neg (by simp_all)]
                   rw [hsv]
                   exact ⟨g, rfl, hk, hs, hT.sub K.sb⟩)
                | (have hR : rightB t = true := by simp_all
                   have hsv : s.save t = (s.flush.1.write (t.gen % 2) (putT t)).1.flush := by unfold DS.save DS.save3; rw [if_pos hR, if_neg (by simp_all), if_neg (by simp_all)]
                   rw [hsv]
                   exact ⟨g23, rfl, hk23, hv23, hT.sub K.sb⟩)
                | (have hR : rightB t = true := by simp_all
                   have hsv : s.save t = s.flush.1.write (t.gen % 2) (putT t) := by unfold DS.save DS.save3; rw [if_pos hR, if_neg (by simp_all), if_pos (by simp_all)]
                   rw [hsv]
                   exact ⟨g19, rfl, hk19, hv19, hT.sub K.sb⟩)
                | (have hR : rightB t = true := by simp_all
                   have hsv : s.save t = s.flush := by unfold DS.save DS.save3; rw [if_pos hR, if_pos (by simp_all)]
                   rw [hsv]
                   exact ⟨g10, rfl, hk10, hv10, hT.sub K.sb⟩)
                | (exfalso; simp_all)
      · first
        | exact absurd h2 (by decide)
        | try replace h2 := of_decide_eq_false h2
          refine K.GC.skip ?_
          refine K.GQ.go ?_
          refine K.GC.seq ?_
          refine K.GC.seq ?_
          refine K.GC.region ?_
          refine K.GL.det (K.e_move rfl) rfl ?_
          first | refine K.GL.det ((K.e_eq rfl rfl).yes (by first | omega | assumption | decide +kernel)) rfl ?_ | refine K.GL.det ((K.e_eq rfl rfl).no (by first | omega | assumption | decide +kernel)) rfl ?_ | refine K.GL.det (K.e_eq rfl rfl) rfl ?_
          refine K.GL.nil ?_
          refine K.GQ.go ?_
          refine K.GC.condB rfl (fun h4 => ?_) (fun h4 => ?_)
          · first
            | exact absurd h4 (by decide)
            | try replace h4 := of_decide_eq_true h4
              refine K.GC.region ?_
              refine K.GL.det (K.e_move rfl) rfl ?_
              refine gl_rdflush_con (s := (s.flush.1.write (t.gen % 2) (putT t)).1) Tryz.call33 rfl hk19 hv19 rfl (fun g23 hk23 hv23 => ?_)
              refine K.GL.det (K.e_assign rfl) rfl ?_
              refine K.GL.nil ?_
              refine K.GQ.go ?_
              refine K.GC.seq ?_
              refine K.GC.region ?_
              refine K.GL.det (K.e_move rfl) rfl ?_
              refine K.GL.det (K.e_assign rfl) rfl ?_
              refine K.GL.nil ?_
              refine K.GQ.go ?_
              refine K.GC.ret ?_
              refine K.GQ.ret1 Tryz.results9 rfl (fun w hT => ?_)
              first
                | (have hsv : s.save t = (s, 1) := by unfold DS.save; rw [if_neg (by simp_all)]
                   rw [hsv]
                   exact ⟨g, rfl, hk, hs, hT.sub K.sb⟩)
                | (have hR : rightB t = true := by simp_all
                   have hsv : s.save t = (s.flush.1.write (t.gen % 2) (putT t)).1.flush := by unfold DS.save DS.save3; rw [if_pos hR, if_neg (by simp_all), if_neg (by simp_all)]
                   rw [hsv]
                   exact ⟨g23, rfl, hk23, hv23, hT.sub K.sb⟩)
                | (have hR : rightB t = true := by simp_all
                   have hsv : s.save t = s.flush.1.write (t.gen % 2) (putT t) := by unfold DS.save DS.save3; rw [if_pos hR, if_neg (by simp_all), if_pos (by simp_all)]
                   rw [hsv]
                   exact ⟨g19, rfl, hk19, hv19, hT.sub K.sb⟩)
                | (have hR : rightB t = true := by simp_all
                   have hsv : s.save t = s.flush := by unfold DS.save DS.save3; rw [if_pos hR, if_pos (by simp_all)]
                   rw [hsv]
                   exact ⟨g10, rfl, hk10, hv10, hT.sub K.sb⟩)
                | (exfalso; simp_all)
          · first
            | exact absurd h4 (by decide)
            | try replace h4 := of_decide_eq_false h4
              refine K.GC.skip ?_
              refine K.GQ.go ?_
              refine K.GC.seq ?_
              refine K.GC.region ?_
              refine K.GL.det (K.e_move rfl) rfl ?_
              refine K.GL.det (K.e_assign rfl) rfl ?_
              refine K.GL.nil ?_
              refine K.GQ.go ?_
              refine K.GC.ret ?_
              refine K.GQ.ret1 Tryz.results9 rfl (fun w hT => ?_)
              first
                | (have hsv : s.save t = (s, 1) := by unfold DS.save; rw [if_neg (by simp_all)]
                   rw [hsv]
                   exact ⟨g, rfl, hk, hs, hT.sub K.sb⟩)
                | (have hR : rightB t = true := by simp_all
                   have hsv : s.save t = (s.flush.1.write (t.gen % 2) (putT t)).1.flush := by unfold DS.save DS.save3; rw [if_pos hR, if_neg (by simp_all), if_neg (by simp_all)]
                   rw [hsv]
                   exact ⟨g23, rfl, hk23, hv23, hT.sub K.sb⟩)
                | (have hR : rightB t = true := by simp_all
                   have hsv : s.save t = s.flush.1.write (t.gen % 2) (putT t) := by unfold DS.save DS.save3; rw [if_pos hR, if_neg (by simp_all), if_pos (by simp_all)]
                   rw [hsv]
                   exact ⟨g19, rfl, hk19, hv19, hT.sub K.sb⟩)
                | (have hR : rightB t = true := by simp_all
                   have hsv : s.save t = s.flush := by unfold DS.save DS.save3; rw [if_pos hR, if_pos (by simp_all)]
                   rw [hsv]
                   exact ⟨g10, rfl, hk10, hv10, hT.sub K.sb⟩)
                | (exfalso; simp_all)
section
variable {ops : Array Oper} {Q : Exit → Act → World → Prop} {N : Nat} {U : Env} {w0 : World} {L0 L F : List Res} {ty : TypeId} {rest : List Oper} {pos : String} {after : Array Edge} {xs : List Operand} {tys : Array TypeId} {dT : Tmp}
theorem gl_rsave_con {rp : Nat} {g : RG} {s : DS} {t : Tab} {a : Option Addr} {c : Nat}  {F1 : List Res}(hf : ∀ args w, (callFunc 9 args).run Tryz.prog w = .ok (.enter 9 args) w) (hx : opvs U xs = some [.pointer (some ⟨rp, 0, none⟩), .agg (tabC t a c).toArray]) [p1 : PkR L rp g F1] (hk : g.Ok) (hs : g.s = s) (hl : t.exts.length ≤ 9223372036854775807) [o0 : RdC w0 L0 [RefR rp g] F1 a (encX) (t.exts)] (hd : Nat.ble (dT + 1) N = true)
    (hr : ∀ (g' : RG), g'.Ok → g'.s = (s.save t).1 → GL Tryz.prog ops Q rest N ((dT, .int .i64 (s.save t).2) :: U) w0 L0 (RefR rp g' :: F1)) : GL Tryz.prog ops Q (⟨some dT, .call ⟨.value (.func 9), xs.toArray, tys⟩, ty, pos, after, Option.none⟩ :: rest) N U w0 L0 L :=
  GL.callM (α := (RG)) (l := [RefR rp g]) (Pv := fun y v => v = .int .i64 (s.save t).2 ∧ y.Ok ∧ y.s = (s.save t).1) (l' := fun y => [RefR rp y]) hf hx (p1.out)
    (fun w hT => by
      have hT1 : Tr w0 L0 w ([RefR rp g] ++ F1) := hT.sub (p1.out); have _o0 := o0.out w hT1; have hd0 := Disj.left hT1.disj; have ho0 := fun r hr => hT1.ok r (List.mem_append_left _ hr); exact (rsave_con hk hs hl hd0 ho0).mono fun e w' ⟨g', h1, g0, g1, h2⟩ => ⟨(g'), _, h1, ⟨rfl, g0, g1⟩, h2⟩) hd fun y v hv => by obtain ⟨rfl, g0, g1⟩ := hv; exact hr y g0 g1
end
end Go.Proofs.YtdbedajaapamhaaGreat
