/- The calls of an index as a caller meets them; the live question. -/
import Derived.Test.YtcphpcjcbmennaaEntG
namespace Go.Proofs.Ytcphpcjcbmennaa
open Go Go.K
set_option linter.unusedVariables false
set_option linter.unusedSimpArgs false
attribute [local irreducible] Calls Ev GL GC GQ GR Code.wp
def one (id tick seq at_ : Int) : EX := ⟨id, 0, tick, 20, false, id, 0, 0, 1, [[119, 101, 98]], seq, at_, 20⟩
theorem IG.ents_length (g : IG) : g.ents.length = g.es.length := by unfold IG.ents; rw [List.length_map]
theorem xput_length (x : EX) : ∀ l : List EX, (xput x l).length ≤ l.length + 1
  | [] => by simp [xput]
  | y :: l => by
    simp only [xput]
    split
    · simp
    · have := xput_length x l; simp; omega
theorem xmod_length (k : Int) (f : EX → EX) : ∀ l : List EX, (xmod k f l).length = l.length
  | [] => rfl
  | y :: l => by
    simp only [xmod]
    split
    · simp
    · have := xmod_length k f l; simp [this]
theorem xdel_length (k : Int) : ∀ l : List EX, (xdel k l).length ≤ l.length
  | [] => by simp [xdel]
  | y :: l => by
    simp only [xdel]
    split
    · simp
    · have := xdel_length k l; simp; omega
theorem sortX_eq {k1 k2 : EX → Int} (hk2 : ∀ x, k2 x = x.id) {l s : List EX} (hp : s.Perm l) (hn : (s.map EX.id).Nodup) (hs : s.Pairwise fun x y => posE k1 k2 x y = true) : sortX k1 k2 l = s := by
  rw [← sortX_of_perm hk2 hp hn]
  exact List.Perm.eq_of_pairwise (le := fun x y => posE k1 k2 x y = true) (fun a b ha hb h1 h2 => by
      rw [posE_iff, hk2, hk2] at h1 h2
      have ha2 := (sortX_perm k1 k2 s).mem_iff.1 ha
      exact ids_eq hn a ha2 b hb (by omega))
    (sortX_pairwise _ _ _) hs (sortX_perm _ _ _)
def pinF (is : Bool) : EX → EX := fun y => { y with pin := is }
def clsF (cls : Int) : EX → EX := fun y => { y with cls := cls }
def movF (seq at_ size : Int) : EX → EX := fun y => { y with seq := seq, at_ := at_, size := size }
/-! ### The live question -/
def hd3 : List EX := xput (one 4 2 8 0) (xput (one 3 9 7 10) (xput (one 5 2 7 40) []))
def hd6 : List EX := xmod 4 (movF 7 90 11) (xmod 5 (clsF 3) (xmod 5 (pinF true) hd3))
def hd7 : List EX := xdel 3 hd6
def y5 : EX := ⟨5, 3, 2, 20, true, 5, 0, 0, 1, [[119, 101, 98]], 7, 40, 20⟩
def y4 : EX := ⟨4, 0, 2, 20, false, 4, 0, 0, 1, [[119, 101, 98]], 7, 90, 11⟩
theorem hd_all : sortX EX.tick EX.id hd3 = [one 4 2 8 0, one 5 2 7 40, one 3 9 7 10] := sortX_eq (fun _ => rfl) (by decide +kernel) (by decide +kernel) (by decide +kernel)
theorem hd_in : sortX EX.at_ EX.id (hd7.filter fun x => decide (x.seq = 7)) = [y5, y4] := sortX_eq (fun _ => rfl) (by decide +kernel) (by decide +kernel) (by decide +kernel)
theorem sl_web {w w0 : World} {L0 L : List Res} {b : Nat} {l : List Bytes} (hT : Tr w0 L0 w L) (h : cl b 9 (strs l) ∈ L) : Sl w 1 (some ⟨b, 0, none⟩) l.length (strs l) := Sl.of_block (hT.ok _ h) (by rw [strs_length, Nat.mul_one])
theorem web_apart {w w0 : World} {L0 L : List Res} {b d : Nat} {g : IG} {xs : List Value} {E : TypeId} {i j : Nat} (hT : Tr w0 L0 w L) (hi : L[i]? = some (cl b E xs)) (hj : L[j]? = some (IdxR d g)) (hij : i ≠ j) : ¬ (IdxR d g).fp b := fun hf => hT.disj i j _ _ hij hi hj b rfl hf

theorem lay28 : K.layout Try.prog 28 = some ([.int .i64 0, .int .i64 0, .int .i64 0, .int .i64 0, .bool false], [(0, 1), (1, 1), (2, 1), (3, 1), (4, 1)]) := by kernel_rfl
theorem lay31 : K.layout Try.prog 31 = some ([.int .i64 0, .int .i64 0, .int .i64 0, .int .i64 0, .slice none 0 0], [(0, 1), (1, 1), (2, 1), (3, 1), (4, 1)]) := by kernel_rfl
/- turntable/turntablelaw14.One -/
set_option maxHeartbeats 1000000 in
set_option maxRecDepth 100000 in
theorem one_con (id tick seq at_ : Int) {w : World} :
    Calls Try.prog 37 #[.int .i64 id, .int .i64 tick, .int .i64 seq, .int .i64 at_] w fun e w' => ∃ b, e = .returned (.agg (encE (one id tick seq at_) (some ⟨b, 0, none⟩) 1).toArray) ∧ Tr w [] w' [cl b 9 (strs (one id tick seq at_).sv)] := by
  refine K.enter0 (args := [_, _, _, _]) Try.func37 rfl Try.ntmps37 rfl ?_
  refine K.GC.seq ?_
  refine K.GC.region ?_
  refine K.GL.alloc Try.zeroValue33 rfl rfl (fun b8 => ?_)
  refine K.GL.nil ?_
  refine K.GQ.go ?_
  refine K.GC.seq ?_
  refine K.GC.region ?_
  refine K.GL.det (K.e_move rfl) rfl ?_
  refine K.GL.det (K.e_move rfl) rfl ?_
  refine K.GL.det (K.e_build lay28 rfl) rfl ?_
  refine K.GL.det (K.e_move rfl) rfl ?_
  refine K.GL.buildSlice mk29 rfl rfl rfl (fun b13 => ?_)
  refine K.GL.det (K.e_build lay31 rfl) rfl ?_
  refine K.GL.det (K.e_move rfl) rfl ?_
  refine K.GL.det (K.e_move rfl) rfl ?_
  refine K.GL.det (K.e_build lay33 rfl) rfl ?_
  refine K.GL.store rfl rfl rfl Try.sizeOf33 rfl rfl ?_
  refine K.GL.nil ?_
  refine K.GQ.go ?_
  refine K.GC.ret ?_
  refine K.GQ.retc Try.results37 Try.isAgg33 Try.sizeOf33 rfl rfl (fun w hT => ?_)
  exact ⟨_, rfl, hT.sub (Sub.take (i := 0) rfl (Sub.nil _))⟩

section
variable {ops : Array Oper} {Q : Exit → Act → World → Prop} {N : Nat} {U : Env} {w0 : World} {L0 L F : List Res} {ty : TypeId} {rest : List Oper} {pos : String} {after : Array Edge} {d : Nat} {g : IG} {xs : List Operand} {tys : Array TypeId} {t : Tmp}

theorem gl_new (hf : ∀ args w, (callFunc 10 args).run Try.prog w = .ok (.enter 10 args) w) (hx : opvs U xs = some []) (hd : Nat.ble (t + 1) N = true) (hr : ∀ d g, g.Ok → g.ents = [] → GL Try.prog ops Q rest N ((t, .pointer (some ⟨d, 0, none⟩)) :: U) w0 L0 (IdxR d g :: L)) : GL Try.prog ops Q (⟨some t, .call ⟨.value (.func 10), xs.toArray, tys⟩, ty, pos, after, Option.none⟩ :: rest) N U w0 L0 L :=
  GL.callM (α := Nat × IG) (l := []) (Pv := fun x v => v = .pointer (some ⟨x.1, 0, none⟩) ∧ x.2.Ok ∧ x.2.ents = []) (l' := fun x => [IdxR x.1 x.2]) hf hx (Sub.refl _)
    (fun w hT => new_con.mono fun e w' ⟨d, g, h1, h2, h3, h4⟩ => ⟨(d, g), _, h1, ⟨rfl, h2, h3⟩, h4⟩) hd fun y v hv => by obtain ⟨rfl, h1, h2⟩ := hv; exact hr y.1 y.2 h1 h2
theorem gl_one {id tick seq at_ : Int} (hf : ∀ args w, (callFunc 37 args).run Try.prog w = .ok (.enter 37 args) w) (hx : opvs U xs = some [.int .i64 id, .int .i64 tick, .int .i64 seq, .int .i64 at_]) (hd : Nat.ble (t + 1) N = true) (hr : ∀ b, GL Try.prog ops Q rest N ((t, .agg (encE (one id tick seq at_) (some ⟨b, 0, none⟩) 1).toArray) :: U) w0 L0 (cl b 9 (strs (one id tick seq at_).sv) :: L)) : GL Try.prog ops Q (⟨some t, .call ⟨.value (.func 37), xs.toArray, tys⟩, ty, pos, after, Option.none⟩ :: rest) N U w0 L0 L :=
  GL.callM (α := Nat) (l := []) (Pv := fun b v => v = .agg (encE (one id tick seq at_) (some ⟨b, 0, none⟩) 1).toArray) (l' := fun b => [cl b 9 (strs (one id tick seq at_).sv)]) hf hx (Sub.refl _)
    (fun w hT => (one_con id tick seq at_).mono fun e w' ⟨b, h1, h2⟩ => ⟨b, _, h1, rfl, h2⟩) hd fun y v hv => by subst hv; exact hr y
theorem gl_put {x : EX} {a0 : Option Addr} {c0 : Nat} {was : Bool} (hf : ∀ args w, (callFunc 17 args).run Try.prog w = .ok (.enter 17 args) w) (hx : opvs U xs = some [.pointer (some ⟨d, 0, none⟩), .agg (encE x a0 c0).toArray]) [hp : PickI L d g F] (hk : g.Ok) (hw : (xget x.id g.ents).isSome = was)
    (hS : ∀ w, Tr w0 L0 w L → Sl w 1 a0 x.sv.length (strs x.sv) ∧ (0 < x.sv.length → ¬ (IdxR d g).fp (bk a0))) (hi : I64 x.id) (hs : x.sv.length ≤ 9000) (hd : Nat.ble (t + 1) N = true)
    (hr : ∀ y : IG, y.Ok → y.ents = xput x g.ents → GL Try.prog ops Q rest N ((t, .bool was) :: U) w0 L0 (IdxR d y :: F)) : GL Try.prog ops Q (⟨some t, .call ⟨.value (.func 17), xs.toArray, tys⟩, ty, pos, after, Option.none⟩ :: rest) N U w0 L0 L := by
  subst hw
  exact GL.callM (α := IG) (Pv := fun y v => v = .bool (xget x.id g.ents).isSome ∧ y.Ok ∧ y.ents = xput x g.ents) (l' := fun y => [IdxR d y]) hf hx hp.sub
    (fun w hT => (put_con hk x (hT.ok _ hp.mem) (hS w hT).1 (hS w hT).2 hi hs).mono fun e w' ⟨y, h1, h2, h3, h4⟩ => ⟨y, _, h1, ⟨rfl, h2, h3⟩, h4⟩) hd fun y v hv => by obtain ⟨rfl, h1, h2⟩ := hv; exact hr y h1 h2

theorem gl_pin {k : Int} {is : Bool} {was : Bool} (hf : ∀ args w, (callFunc 14 args).run Try.prog w = .ok (.enter 14 args) w) (hx : opvs U xs = some [.pointer (some ⟨d, 0, none⟩), .int .i64 k, .bool is]) [hp : PickI L d g F] (hk : g.Ok) (hw : (xget k g.ents).isSome = was) (hd : Nat.ble (t + 1) N = true)
    (hr : ∀ y : IG, y.Ok → y.ents = xmod k (pinF is) g.ents → GL Try.prog ops Q rest N ((t, .bool was) :: U) w0 L0 (IdxR d y :: F)) : GL Try.prog ops Q (⟨some t, .call ⟨.value (.func 14), xs.toArray, tys⟩, ty, pos, after, Option.none⟩ :: rest) N U w0 L0 L := by
  subst hw
  exact GL.callM (α := IG) (Pv := fun y v => v = .bool (xget k g.ents).isSome ∧ y.Ok ∧ y.ents = xmod k (pinF is) g.ents) (l' := fun y => [IdxR d y]) hf hx hp.sub
    (fun w hT => (pin_con hk k is (hT.ok _ hp.mem)).mono fun e w' ⟨y, h1, h2, h3, h4⟩ => ⟨y, _, h1, ⟨rfl, h2, h3⟩, h4⟩) hd fun y v hv => by obtain ⟨rfl, h1, h2⟩ := hv; exact hr y h1 h2

theorem gl_class {k : Int} {cls : Int} {was : Bool} (hf : ∀ args w, (callFunc 15 args).run Try.prog w = .ok (.enter 15 args) w) (hx : opvs U xs = some [.pointer (some ⟨d, 0, none⟩), .int .i64 k, .int .i64 cls]) [hp : PickI L d g F] (hk : g.Ok) (hw : (xget k g.ents).isSome = was) (hd : Nat.ble (t + 1) N = true)
    (hr : ∀ y : IG, y.Ok → y.ents = xmod k (clsF cls) g.ents → GL Try.prog ops Q rest N ((t, .bool was) :: U) w0 L0 (IdxR d y :: F)) : GL Try.prog ops Q (⟨some t, .call ⟨.value (.func 15), xs.toArray, tys⟩, ty, pos, after, Option.none⟩ :: rest) N U w0 L0 L := by
  subst hw
  exact GL.callM (α := IG) (Pv := fun y v => v = .bool (xget k g.ents).isSome ∧ y.Ok ∧ y.ents = xmod k (clsF cls) g.ents) (l' := fun y => [IdxR d y]) hf hx hp.sub
    (fun w hT => (class_con hk k cls (hT.ok _ hp.mem)).mono fun e w' ⟨y, h1, h2, h3, h4⟩ => ⟨y, _, h1, ⟨rfl, h2, h3⟩, h4⟩) hd fun y v hv => by obtain ⟨rfl, h1, h2⟩ := hv; exact hr y h1 h2

theorem gl_move {k : Int} {seq at_ size : Int} {was : Bool} (hf : ∀ args w, (callFunc 16 args).run Try.prog w = .ok (.enter 16 args) w) (hx : opvs U xs = some [.pointer (some ⟨d, 0, none⟩), .int .i64 k, .int .i64 seq, .int .i64 at_, .int .i64 size]) [hp : PickI L d g F] (hk : g.Ok) (hw : (xget k g.ents).isSome = was) (hd : Nat.ble (t + 1) N = true)
    (hr : ∀ y : IG, y.Ok → y.ents = xmod k (movF seq at_ size) g.ents → GL Try.prog ops Q rest N ((t, .bool was) :: U) w0 L0 (IdxR d y :: F)) : GL Try.prog ops Q (⟨some t, .call ⟨.value (.func 16), xs.toArray, tys⟩, ty, pos, after, Option.none⟩ :: rest) N U w0 L0 L := by
  subst hw
  exact GL.callM (α := IG) (Pv := fun y v => v = .bool (xget k g.ents).isSome ∧ y.Ok ∧ y.ents = xmod k (movF seq at_ size) g.ents) (l' := fun y => [IdxR d y]) hf hx hp.sub
    (fun w hT => (move_con hk k seq at_ size (hT.ok _ hp.mem)).mono fun e w' ⟨y, h1, h2, h3, h4⟩ => ⟨y, _, h1, ⟨rfl, h2, h3⟩, h4⟩) hd fun y v hv => by obtain ⟨rfl, h1, h2⟩ := hv; exact hr y h1 h2

theorem gl_del {k : Int}  {was : Bool} (hf : ∀ args w, (callFunc 13 args).run Try.prog w = .ok (.enter 13 args) w) (hx : opvs U xs = some [.pointer (some ⟨d, 0, none⟩), .int .i64 k]) [hp : PickI L d g F] (hk : g.Ok) (hw : (xget k g.ents).isSome = was) (hd : Nat.ble (t + 1) N = true)
    (hr : ∀ y : IG, y.Ok → y.ents = xdel k g.ents → GL Try.prog ops Q rest N ((t, .bool was) :: U) w0 L0 (IdxR d y :: F)) : GL Try.prog ops Q (⟨some t, .call ⟨.value (.func 13), xs.toArray, tys⟩, ty, pos, after, Option.none⟩ :: rest) N U w0 L0 L := by
  subst hw
  exact GL.callM (α := IG) (Pv := fun y v => v = .bool (xget k g.ents).isSome ∧ y.Ok ∧ y.ents = xdel k g.ents) (l' := fun y => [IdxR d y]) hf hx hp.sub
    (fun w hT => (del_con hk k  (hT.ok _ hp.mem)).mono fun e w' ⟨y, h1, h2, h3, h4⟩ => ⟨y, _, h1, ⟨rfl, h2, h3⟩, h4⟩) hd fun y v hv => by obtain ⟨rfl, h1, h2⟩ := hv; exact hr y h1 h2

theorem gl_get {k : Int} {r : Option EX} (hf : ∀ args w, (callFunc 12 args).run Try.prog w = .ok (.enter 12 args) w) (hx : opvs U xs = some [.pointer (some ⟨d, 0, none⟩), .int .i64 k]) [hp : PickI L d g F] (hk : g.Ok) (hg : xget k g.ents = r) (hd : Nat.ble (t + 1) N = true)
    (hr : ∀ a c, GL Try.prog ops Q rest N ((t, .tuple [.agg (encE (r.getD EX.zero) a c).toArray, .bool r.isSome].toArray) :: U) w0 L0 (row a c 1 9 (strs (r.getD EX.zero).sv) :: L)) : GL Try.prog ops Q (⟨some t, .call ⟨.value (.func 12), xs.toArray, tys⟩, ty, pos, after, Option.none⟩ :: rest) N U w0 L0 L := by
  subst hg
  exact GL.callM (α := Option Addr × Nat) (l := []) (Pv := fun y v => v = .tuple [.agg (encE ((xget k g.ents).getD EX.zero) y.1 y.2).toArray, .bool (xget k g.ents).isSome].toArray) (l' := fun y => [row y.1 y.2 1 9 (strs ((xget k g.ents).getD EX.zero).sv)]) hf hx (Sub.refl _)
    (fun w hT => (get_con hk k (hT.ok _ hp.mem)).mono fun e w' ⟨a, c, h1, h2⟩ => ⟨(a, c), _, h1, rfl, h2⟩) hd fun y v hv => by subst hv; exact hr y.1 y.2
theorem gl_all (hf : ∀ args w, (callFunc 32 args).run Try.prog w = .ok (.enter 32 args) w) (hx : opvs U xs = some [.pointer (some ⟨d, 0, none⟩)]) [hp : PickI L d g F] (hk : g.Ok) (hz : g.es.length ≤ 9000) (hd : Nat.ble (t + 1) N = true)
    (hr : ∀ (l : List OE) a c, l.map OE.x = g.all → GL Try.prog ops Q rest N ((t, .slice a l.length c) :: U) w0 L0 (row a c 13 33 (l.flatMap OE.enc) :: Go.K.all (l.map svR) :: L)) : GL Try.prog ops Q (⟨some t, .call ⟨.value (.func 32), xs.toArray, tys⟩, ty, pos, after, Option.none⟩ :: rest) N U w0 L0 L :=
  GL.callM (α := List OE × Option Addr × Nat) (l := []) (Pv := fun y v => y.1.map OE.x = g.all ∧ v = .slice y.2.1 y.1.length y.2.2) (l' := fun y => [row y.2.1 y.2.2 13 33 (y.1.flatMap OE.enc), Go.K.all (y.1.map svR)]) hf hx (Sub.refl _)
    (fun w hT => (All_con hk hz (hT.ok _ hp.mem)).mono fun e w' ⟨l, h0, a, c, h1, h2⟩ => ⟨(l, a, c), _, h1, ⟨h0, rfl⟩, h2⟩) hd fun y v hv => by obtain ⟨h1, rfl⟩ := hv; exact hr y.1 y.2.1 y.2.2 h1
theorem gl_items (hf : ∀ args w, (callFunc 35 args).run Try.prog w = .ok (.enter 35 args) w) (hx : opvs U xs = some [.pointer (some ⟨d, 0, none⟩)]) [hp : PickI L d g F] (hk : g.Ok) (hz : g.es.length ≤ 9000) (hd : Nat.ble (t + 1) N = true)
    (hr : ∀ a c, GL Try.prog ops Q rest N ((t, .slice a g.all.length c) :: U) w0 L0 (row a c 5 28 (g.all.flatMap encI) :: L)) : GL Try.prog ops Q (⟨some t, .call ⟨.value (.func 35), xs.toArray, tys⟩, ty, pos, after, Option.none⟩ :: rest) N U w0 L0 L :=
  GL.callM (α := Option Addr × Nat) (l := []) (Pv := fun y v => v = .slice y.1 g.all.length y.2) (l' := fun y => [row y.1 y.2 5 28 (g.all.flatMap encI)]) hf hx (Sub.refl _)
    (fun w hT => (Items_con hk hz (hT.ok _ hp.mem)).mono fun e w' ⟨a, c, h1, h2⟩ => ⟨(a, c), _, h1, rfl, h2⟩) hd fun y v hv => by subst hv; exact hr y.1 y.2
theorem gl_in {s : Int} (hf : ∀ args w, (callFunc 29 args).run Try.prog w = .ok (.enter 29 args) w) (hx : opvs U xs = some [.pointer (some ⟨d, 0, none⟩), .int .i64 s]) [hp : PickI L d g F] (hk : g.Ok) (hz : g.es.length ≤ 9000) (hd : Nat.ble (t + 1) N = true)
    (hr : ∀ a c, GL Try.prog ops Q rest N ((t, .slice a (g.in_ s).length c) :: U) w0 L0 (row a c 1 2 (idsV (g.in_ s)) :: L)) : GL Try.prog ops Q (⟨some t, .call ⟨.value (.func 29), xs.toArray, tys⟩, ty, pos, after, Option.none⟩ :: rest) N U w0 L0 L :=
  GL.callM (α := Option Addr × Nat) (l := []) (Pv := fun y v => v = .slice y.1 (g.in_ s).length y.2) (l' := fun y => [row y.1 y.2 1 2 (idsV (g.in_ s))]) hf hx (Sub.refl _)
    (fun w hT => (In_con hk hz s (hT.ok _ hp.mem)).mono fun e w' ⟨a, c, h1, h2⟩ => ⟨(a, c), _, h1, rfl, h2⟩) hd fun y v hv => by subst hv; exact hr y.1 y.2
end

end Go.Proofs.Ytcphpcjcbmennaa
