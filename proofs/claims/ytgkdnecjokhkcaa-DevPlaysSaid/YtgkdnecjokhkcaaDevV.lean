/- The calls of the document's device as a caller meets them, and calls that came in with all they have. -/
import Derived.ProofKit
import Derived.OpenShut
import Derived.Test.YtgkdnecjokhkcaaDevU
namespace Go.Proofs.Ytgkdnecjokhkcaa
open Go Go.K Go.ChangeShapes Go.WideShapes Go.ChangeAt Go.RowKit
set_option linter.unusedVariables false
set_option linter.unusedSimpArgs false
attribute [local irreducible] Calls Ev GL GC GQ GR Code.wp
def OGood2 (w : World) (q : OX) : Prop := (I64 q.what ∧ I64 q.at_) ∧ (∃ bs, Sl w 1 q.ba q.bn (bv bs)) ∧ (∃ ks : List Bool, Sl w 1 q.ka q.kn (ks.map .bool)) ∧ ∃ hs : List HX, Sl w 3 q.ha q.hn (hs.flatMap encH) ∧ (∀ h ∈ hs, h.bits < 4294967296) ∧ q.hn ≤ 9223372036854775807
theorem list3 {α : Type} {l : List α} (h : l.length = 3) : ∃ a b c, l = [a, b, c] := by
  match l, h with
  | [a, b, c], _ => exact ⟨a, b, c, rfl⟩
instance : Inhabited HX := ⟨⟨0, 0, 0⟩⟩
section
variable {H : Type} {enc : TypeId × Value → H} {w : World} {held : Bool}
theorem bools_flat : ∀ l : List Bool, (l.flatMap fun b => [Value.bool b]) = l.map .bool
  | [] => rfl
  | b :: l => by rw [List.flatMap_cons, bools_flat l]; rfl
theorem open_bools {fuel : Nat} {cs : List Value} {x : DataW H × List MemPlace} (h : DataW.trod enc Try.prog w 0 (fun _ => true) held fuel 30 cs = some x) :
    ∃ (a : Option Addr) (n c : Nat) (l : List Bool), cs = [.slice a n c] ∧ n ≤ maxLen ∧ Sl w 1 a n (l.map .bool) := by
  obtain ⟨a, n, c, l, h1, h2, h3, _⟩ := open_things (α := Bool) (enc' := fun b => [.bool b]) (Good := fun _ => True) (k := 1) (by omega) (fun _ => rfl) Try.underlying30 (by kernel_rfl)
    (fun n cs x hx => by obtain ⟨b, rfl, _⟩ := DataW.trod_bool Try.underlying4 hx; exact ⟨b, rfl, trivial⟩) h
  rw [bools_flat] at h3
  exact ⟨a, n, c, l, h1, h2, h3⟩
theorem open_hurt (n : Nat) (cs : List Value) (x : DataW H × List MemPlace) (h : DataW.trod enc Try.prog w 0 (fun _ => true) held n 51 cs = some x) : ∃ y : HX, cs = encH y ∧ y.bits < 4294967296 := by
  obtain ⟨xs, m, _, rfl, hl, hlen, hf⟩ := DataW.trod_struct Try.underlying51 h
  have hc : Try.prog.cellsOf 51 = 3 := by kernel_rfl
  rw [hc] at hl
  obtain ⟨c0, c1, c2, rfl⟩ := list3 hl
  obtain ⟨x0, x1, x2, rfl⟩ := list3 (hlen.trans rfl)
  have ci : Try.prog.cellsOf 3 = 1 := by kernel_rfl
  have cu : Try.prog.cellsOf 49 = 1 := by kernel_rfl
  have h0 : DataW.trod enc Try.prog w 0 (fun _ => true) held m 3 [c0] = some x0 := by
    have h : DataW.trod enc Try.prog w 0 (fun _ => true) held m 3 (List.take (Try.prog.cellsOf 3) (List.drop 0 [c0, c1, c2])) = some x0 := hf 0 _ rfl
    rw [ci] at h; exact h
  have h1 : DataW.trod enc Try.prog w 0 (fun _ => true) held m 3 [c1] = some x1 := by
    have h : DataW.trod enc Try.prog w 0 (fun _ => true) held m 3 (List.take (Try.prog.cellsOf 3) (List.drop 1 [c0, c1, c2])) = some x1 := hf 1 _ rfl
    rw [ci] at h; exact h
  have h2 : DataW.trod enc Try.prog w 0 (fun _ => true) held m 49 [c2] = some x2 := by
    have h : DataW.trod enc Try.prog w 0 (fun _ => true) held m 49 (List.take (Try.prog.cellsOf 49) (List.drop 2 [c0, c1, c2])) = some x2 := hf 2 _ rfl
    rw [cu] at h; exact h
  obtain ⟨a, e0, _, w0⟩ := DataW.trod_int Try.underlying3 h0
  obtain ⟨b, e1, _, w1⟩ := DataW.trod_int Try.underlying3 h1
  obtain ⟨c, e2, _, w2⟩ := DataW.trod_int Try.underlying49 h2
  simp only [List.cons.injEq, and_true] at e0 e1 e2
  subst e0 e1 e2
  have b2 := bounds_u32 w2
  obtain ⟨c, rfl⟩ := Int.eq_ofNat_of_zero_le b2.1
  exact ⟨⟨a, b, c⟩, rfl, by show c < 4294967296; omega⟩
theorem open_op2 (n : Nat) (cs : List Value) (x : DataW H × List MemPlace) (h : DataW.trod enc Try.prog w 0 (fun _ => true) held n 33 cs = some x) : ∃ y, cs = encO y ∧ OGood2 w y := by
  obtain ⟨xs, m, _, rfl, hl, hlen, hf⟩ := DataW.trod_struct Try.underlying33 h
  have hc : Try.prog.cellsOf 33 = 6 := by kernel_rfl
  rw [hc] at hl
  obtain ⟨c0, c1, c2, c3, c4, c5, rfl⟩ := list6 hl
  obtain ⟨x0, x1, x2, x3, x4, x5, rfl⟩ := list6 (hlen.trans rfl)
  have ci : Try.prog.cellsOf 3 = 1 := by kernel_rfl
  have cu : Try.prog.cellsOf 5 = 1 := by kernel_rfl
  have cb : Try.prog.cellsOf 29 = 1 := by kernel_rfl
  have ck : Try.prog.cellsOf 30 = 1 := by kernel_rfl
  have ch : Try.prog.cellsOf 31 = 1 := by kernel_rfl
  have h0 : DataW.trod enc Try.prog w 0 (fun _ => true) held m 3 [c0] = some x0 := by
    have h : DataW.trod enc Try.prog w 0 (fun _ => true) held m 3 (List.take (Try.prog.cellsOf 3) (List.drop 0 [c0, c1, c2, c3, c4, c5])) = some x0 := hf 0 _ rfl
    rw [ci] at h
    exact h
  have h1 : DataW.trod enc Try.prog w 0 (fun _ => true) held m 3 [c1] = some x1 := by
    have h : DataW.trod enc Try.prog w 0 (fun _ => true) held m 3 (List.take (Try.prog.cellsOf 3) (List.drop 1 [c0, c1, c2, c3, c4, c5])) = some x1 := hf 1 _ rfl
    rw [ci] at h
    exact h
  have h2 : DataW.trod enc Try.prog w 0 (fun _ => true) held m 5 [c2] = some x2 := by
    have h : DataW.trod enc Try.prog w 0 (fun _ => true) held m 5 (List.take (Try.prog.cellsOf 5) (List.drop 2 [c0, c1, c2, c3, c4, c5])) = some x2 := hf 2 _ rfl
    rw [cu] at h
    exact h
  have h3 : DataW.trod enc Try.prog w 0 (fun _ => true) held m 29 [c3] = some x3 := by
    have h : DataW.trod enc Try.prog w 0 (fun _ => true) held m 29 (List.take (Try.prog.cellsOf 29) (List.drop 3 [c0, c1, c2, c3, c4, c5])) = some x3 := hf 3 _ rfl
    rw [cb] at h
    exact h
  have h4 : DataW.trod enc Try.prog w 0 (fun _ => true) held m 30 [c4] = some x4 := by
    have h : DataW.trod enc Try.prog w 0 (fun _ => true) held m 30 (List.take (Try.prog.cellsOf 30) (List.drop 4 [c0, c1, c2, c3, c4, c5])) = some x4 := hf 4 _ rfl
    rw [ck] at h
    exact h
  have h5 : DataW.trod enc Try.prog w 0 (fun _ => true) held m 31 [c5] = some x5 := by
    have h : DataW.trod enc Try.prog w 0 (fun _ => true) held m 31 (List.take (Try.prog.cellsOf 31) (List.drop 5 [c0, c1, c2, c3, c4, c5])) = some x5 := hf 5 _ rfl
    rw [ch] at h
    exact h
  obtain ⟨a, e0, _, w0⟩ := DataW.trod_int Try.underlying3 h0
  obtain ⟨b, e1, _, w1⟩ := DataW.trod_int Try.underlying3 h1
  obtain ⟨c, e2, _, w2⟩ := DataW.trod_int Try.underlying5 h2
  obtain ⟨ba, bn, bc, bs, e3, _, s3⟩ := open_bytes h3
  obtain ⟨ka, kn, kc, ks, e4, _, s4⟩ := open_bools h4
  obtain ⟨ha, hn, hc', hs, e5, n5, s5, g5⟩ := open_things (α := HX) (enc' := encH) (Good := fun y => y.bits < 4294967296) (k := 3) (by omega) encH_len Try.underlying31 (by kernel_rfl) open_hurt h5
  simp only [List.cons.injEq, and_true] at e0 e1 e2 e3 e4 e5
  subst e0 e1 e2 e3 e4 e5
  have bc8 := bounds_u8 w2
  obtain ⟨c, rfl⟩ := Int.eq_ofNat_of_zero_le bc8.1
  unfold maxLen at n5
  refine ⟨⟨a, b, UInt8.ofNat c, ba, bn, bc, ka, kn, kc, ha, hn, hc'⟩, ?_, ⟨bounds_i64 w0, bounds_i64 w1⟩, ⟨bs, s3⟩, ⟨ks, s4⟩, hs, s5, g5, n5⟩
  simp only [encO, List.cons.injEq, true_and, and_true, Value.int.injEq]
  rw [UInt8.toNat_ofNat_of_lt' (by show c < 256; omega)]
theorem open_ops2 {fuel : Nat} {cs : List Value} {x : DataW H × List MemPlace} (h : DataW.trod enc Try.prog w 0 (fun _ => true) held fuel 22 cs = some x) :
    ∃ (a : Option Addr) (n c : Nat) (l : List OX), cs = [.slice a n c] ∧ n ≤ maxLen ∧ Sl w 6 a n (l.flatMap encO) ∧ ∀ y ∈ l, OGood2 w y :=
  open_things (by omega) encO_len Try.underlying22 (by kernel_rfl) open_op2 h
end
theorem apart_old {w w' : World} {L : List Res} {a : Option Addr} {n k : Nat} {xs : List Value} (h : Sl w k a n xs) (hk : 0 < k) (hT : Tr w [] w' L) {r : Res} (hr : r ∈ L) (hn : 0 < n) : ¬ r.fp (bk a) := fun hf => by
  rcases hT.new r hr _ hf with h1 | ⟨s, hs, _⟩
  · have hlen := h.len
    have hpos : 0 < xs.length := by rw [hlen]; exact Nat.mul_pos hn hk
    obtain ⟨v, hv⟩ : ∃ v, xs[0]? = some v := get_ex hpos
    have hc := h.cell 0 v hv
    unfold World.cell? at hc
    rw [Array.getElem?_eq_none h1] at hc
    cases hc
  · cases hs
theorem own_sliceR {w0 w : World} {L0 L : List Res} {r b : Nat} {g : RG} {y : Sec} (hT : Tr w0 L0 w (cl b 5 (sv y) :: L)) (hm : RefR r g ∈ L) : Sl w 1 (some ⟨b, 0, none⟩) 64 (bv y.1) ∧ (0 < 64 → ¬ (RefR r g).fp (bk (some ⟨b, 0, none⟩))) :=
  ⟨Sl.of_block (hT.ok _ List.mem_cons_self) (by rw [bv_length, y.2]), fun _ hf => hT.disj.head hm b rfl hf⟩
theorem two_sub {L F F' : List Res} {d r : Nat} {g : DG} {x : RG} [hp : Pick L d g F] [hq : PickR F r x F'] : Sub [DevR d g, RefR r x] L := (Sub.cons _ ((Sub.cons _ (Sub.nil F')).trans hq.sub)).trans hp.sub
section
variable {ops : Array Oper} {Q : Exit → Act → World → Prop} {N : Nat} {U : Env} {w0 : World} {L0 L F : List Res} {ty : TypeId} {rest : List Oper} {pos : String} {after : Array Edge} {r : Nat} {g : RG} {xs : List Operand} {tys : Array TypeId} {t : Tmp}
theorem gl_rnew {n : Int} (hf : ∀ args w, (callFunc 12 args).run Try.prog w = .ok (.enter 12 args) w) (hx : opvs U xs = some [.int .i64 n]) (hn : 1 ≤ n ∧ n ≤ 4096) (hd : Nat.ble (t + 1) N = true)
    (hr : ∀ r g, g.Ok → g.s = DS.new n.toNat → GL Try.prog ops Q rest N ((t, .pointer (some ⟨r, 0, none⟩)) :: U) w0 L0 (RefR r g :: L)) : GL Try.prog ops Q (⟨some t, .call ⟨.value (.func 12), xs.toArray, tys⟩, ty, pos, after, Option.none⟩ :: rest) N U w0 L0 L :=
  GL.callM (α := Nat × RG) (l := []) (Pv := fun x v => v = .pointer (some ⟨x.1, 0, none⟩) ∧ x.2.Ok ∧ x.2.s = DS.new n.toNat) (l' := fun x => [RefR x.1 x.2]) hf hx (Sub.refl _)
    (fun w hT => (rnew_con n).mono fun e w' h => by
      rcases h with ⟨h1, _⟩ | ⟨d, x, _, h2, h3, h4, h5⟩
      · exact absurd hn h1
      · exact ⟨(d, x), _, h2, ⟨rfl, h3, h4⟩, h5⟩) hd fun x v hv => by obtain ⟨rfl, h1, h2⟩ := hv; exact hr x.1 x.2 h1 h2
theorem gl_rnew0 {n : Int} (hf : ∀ args w, (callFunc 12 args).run Try.prog w = .ok (.enter 12 args) w) (hx : opvs U xs = some [.int .i64 n]) (hn : ¬ (1 ≤ n ∧ n ≤ 4096)) (hd : Nat.ble (t + 1) N = true)
    (hr : GL Try.prog ops Q rest N ((t, .pointer none) :: U) w0 L0 L) : GL Try.prog ops Q (⟨some t, .call ⟨.value (.func 12), xs.toArray, tys⟩, ty, pos, after, Option.none⟩ :: rest) N U w0 L0 L :=
  GL.callM (α := Unit) (l := []) (Pv := fun _ v => v = .pointer none) (l' := fun _ => []) hf hx (Sub.refl _)
    (fun w hT => (rnew_con n).mono fun e w' h => by
      rcases h with ⟨_, h2, h3⟩ | ⟨d, x, h1, _⟩
      · exact ⟨(), _, h2, rfl, h3⟩
      · exact absurd h1 hn) hd fun x v hv => by subst hv; exact hr
theorem gl_rwrite {s : DS} {i : Int} {a : Option Addr} {n c : Nat} {bs : Bytes} (hf : ∀ args w, (callFunc 14 args).run Try.prog w = .ok (.enter 14 args) w) (hx : opvs U xs = some [.pointer (some ⟨r, 0, none⟩), .int .i64 i, .slice a n c]) [hp : PickR L r g F] (hk : g.Ok) (he : g.s = s)
    (hS : ∀ w, Tr w0 L0 w L → Sl w 1 a n (bv bs) ∧ (0 < n → ¬ (RefR r g).fp (bk a))) (hd : Nat.ble (t + 1) N = true)
    (hr : ∀ x : RG, x.Ok → x.s = (s.write i bs).1 → GL Try.prog ops Q rest N ((t, .int .i64 (s.write i bs).2) :: U) w0 L0 (RefR r x :: F)) : GL Try.prog ops Q (⟨some t, .call ⟨.value (.func 14), xs.toArray, tys⟩, ty, pos, after, Option.none⟩ :: rest) N U w0 L0 L := by
  subst he
  exact GL.callM (α := RG) (Pv := fun x v => v = .int .i64 (g.s.write i bs).2 ∧ x.Ok ∧ x.s = (g.s.write i bs).1) (l' := fun x => [RefR r x]) hf hx hp.sub
    (fun w hT => (rwrite_con hk i (hT.ok _ hp.mem) (hS w hT).1 (hS w hT).2).mono fun e w' ⟨x, h1, h2, h3, h4⟩ => ⟨x, _, h1, ⟨rfl, h2, h3⟩, h4⟩) hd fun x v hv => by obtain ⟨rfl, h1, h2⟩ := hv; exact hr x h1 h2
theorem gl_rflush {s : DS} (hf : ∀ args w, (callFunc 16 args).run Try.prog w = .ok (.enter 16 args) w) (hx : opvs U xs = some [.pointer (some ⟨r, 0, none⟩)]) [hp : PickR L r g F] (hk : g.Ok) (he : g.s = s) (hd : Nat.ble (t + 1) N = true)
    (hr : ∀ x : RG, x.Ok → x.s = s.flush.1 → GL Try.prog ops Q rest N ((t, .int .i64 s.flush.2) :: U) w0 L0 (RefR r x :: F)) : GL Try.prog ops Q (⟨some t, .call ⟨.value (.func 16), xs.toArray, tys⟩, ty, pos, after, Option.none⟩ :: rest) N U w0 L0 L := by
  subst he
  exact GL.callM (α := RG) (Pv := fun x v => v = .int .i64 g.s.flush.2 ∧ x.Ok ∧ x.s = g.s.flush.1) (l' := fun x => [RefR r x]) hf hx hp.sub
    (fun w hT => (rflush_con hk (hT.ok _ hp.mem)).mono fun e w' ⟨x, h1, h2, h3, h4⟩ => ⟨x, _, h1, ⟨rfl, h2, h3⟩, h4⟩) hd fun x v hv => by obtain ⟨rfl, h1, h2⟩ := hv; exact hr x h1 h2
theorem gl_rcut {s : DS} {i : Int} (hf : ∀ args w, (callFunc 20 args).run Try.prog w = .ok (.enter 20 args) w) (hx : opvs U xs = some [.pointer (some ⟨r, 0, none⟩), .int .i64 i]) [hp : PickR L r g F] (hk : g.Ok) (he : g.s = s) (hi : I64 i) (hd : Nat.ble (t + 1) N = true)
    (hr : ∀ x : RG, x.Ok → x.s = s.setCut i → ∀ u, GL Try.prog ops Q rest N ((t, u) :: U) w0 L0 (RefR r x :: F)) : GL Try.prog ops Q (⟨some t, .call ⟨.value (.func 20), xs.toArray, tys⟩, ty, pos, after, Option.none⟩ :: rest) N U w0 L0 L := by
  subst he
  exact GL.callM (α := RG) (Pv := fun x v => x.Ok ∧ x.s = g.s.setCut i) (l' := fun x => [RefR r x]) hf hx hp.sub
    (fun w hT => (rcut_con hk i hi (hT.ok _ hp.mem)).mono fun e w' ⟨v, x, h1, h2, h3, h4⟩ => ⟨x, _, h1, ⟨h2, h3⟩, h4⟩) hd fun x v hv => hr x hv.1 hv.2 v
theorem gl_rread {s : DS} {i : Int} (hf : ∀ args w, (callFunc 18 args).run Try.prog w = .ok (.enter 18 args) w) (hx : opvs U xs = some [.pointer (some ⟨r, 0, none⟩), .int .i64 i]) [hp : PickR L r g F] (hk : g.Ok) (he : g.s = s) (hd : Nat.ble (t + 1) N = true)
    (hr : ∀ a c, GL Try.prog ops Q rest N ((t, .tuple [.slice a (s.read i).1.length c, .int .i64 (s.read i).2].toArray) :: U) w0 L0 (rdr a (bv (s.read i).1) :: L)) : GL Try.prog ops Q (⟨some t, .call ⟨.value (.func 18), xs.toArray, tys⟩, ty, pos, after, Option.none⟩ :: rest) N U w0 L0 L := by
  subst he
  exact GL.callM (α := Option Addr × Nat) (l := []) (Pv := fun x v => v = .tuple [.slice x.1 (g.s.read i).1.length x.2, .int .i64 (g.s.read i).2].toArray) (l' := fun x => [rdr x.1 (bv (g.s.read i).1)]) hf hx (Sub.refl _)
    (fun w hT => (rread_con hk i (hT.ok _ hp.mem)).mono fun e w' ⟨a, c, h1, h2⟩ => ⟨(a, c), _, h1, rfl, h2⟩) hd fun x v hv => by subst hv; exact hr x.1 x.2
theorem gl_rloose2 {s : DS} (hf : ∀ args w, (callFunc 26 args).run Try.prog w = .ok (.enter 26 args) w) (hx : opvs U xs = some [.pointer (some ⟨r, 0, none⟩)]) [hp : PickR L r g F] (hk : g.Ok) (he : g.s = s) (hd : Nat.ble (t + 1) N = true)
    (hr : ∀ a c, GL Try.prog ops Q rest N ((t, .slice a s.list.length c) :: U) w0 L0 (row a c 1 3 (ints s.list) :: L)) : GL Try.prog ops Q (⟨some t, .call ⟨.value (.func 26), xs.toArray, tys⟩, ty, pos, after, Option.none⟩ :: rest) N U w0 L0 L := by
  subst he
  exact gl_rloose hf hx hk hd hr
theorem gl_rboot {s : DS} {ak ah : Option Addr} {nk ck nh ch : Nat} {ks : List Bool} {hs : List HX} (hf : ∀ args w, (callFunc 22 args).run Try.prog w = .ok (.enter 22 args) w) (hx : opvs U xs = some [.pointer (some ⟨r, 0, none⟩), .slice ak nk ck, .slice ah nh ch]) [hp : PickR L r g F] (hk : g.Ok) (he : g.s = s)
    (hS : ∀ w, Tr w0 L0 w L → (Sl w 1 ak nk (ks.map .bool) ∧ (0 < nk → ¬ (RefR r g).fp (bk ak))) ∧ Sl w 3 ah nh (hs.flatMap encH) ∧ (0 < nh → ¬ (RefR r g).fp (bk ah))) (hb : ∀ h ∈ hs, h.bits < 4294967296) (hnh : nh ≤ 9223372036854775807) (hd : Nat.ble (t + 1) N = true)
    (hr : ∀ x : RG, x.Ok → x.s = s.boot ks hs → ∀ u, GL Try.prog ops Q rest N ((t, u) :: U) w0 L0 (RefR r x :: F)) : GL Try.prog ops Q (⟨some t, .call ⟨.value (.func 22), xs.toArray, tys⟩, ty, pos, after, Option.none⟩ :: rest) N U w0 L0 L := by
  subst he
  exact GL.callM (α := RG) (Pv := fun x _ => x.Ok ∧ x.s = g.s.boot ks hs) (l' := fun x => [RefR r x]) hf hx hp.sub
    (fun w hT => (rboot_con hk (hT.ok _ hp.mem) (hS w hT).1.1 (hS w hT).1.2 (hS w hT).2.1 (hS w hT).2.2 hb hnh).mono fun e w' ⟨v, x, h1, h2, h3, h4⟩ => ⟨x, _, h1, ⟨h2, h3⟩, h4⟩) hd fun x v hv => hr x hv.1 hv.2 v
end

end Go.Proofs.Ytgkdnecjokhkcaa
