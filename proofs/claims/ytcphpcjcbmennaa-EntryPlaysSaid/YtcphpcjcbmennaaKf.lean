/- The bytes of a string in an array of their own, and results that are only read; without conditions. -/
import Derived.Test.YtcphpcjcbmennaaKe
import Derived.Laws.IdiomStrings
set_option linter.unusedVariables false
set_option linter.unusedSimpArgs false
set_option linter.unnecessarySimpa false
set_option linter.deprecated false
namespace Go.K
open Go
set_option linter.unusedVariables false
abbrev clz (b : Nat) (T : TypeId) (cs : List Value) : Res := pt b (.cells cs.toArray T (cs.length, cs.length + 1))
theorem cell_of_any {w : World} {b off : Nat} {T : TypeId} {cs : List Value} {fr : Nat × Nat} (h : w.heap[b]? = some (.cells cs.toArray T fr)) : w.cell? ⟨b, off, none⟩ = cs[off]? := by
  simp [World.cell?, h]
theorem Sl.pre_any {w : World} {b : Nat} {T : TypeId} {cs xs : List Value} {k n : Nat} {fr : Nat × Nat} (h : w.heap[b]? = some (.cells (xs ++ cs).toArray T fr)) (hl : xs.length = n * k) : Sl w k (some ⟨b, 0, none⟩) n xs :=
  ⟨hl, fun _ => rfl, fun j v hj => by
    have hjl := (List.getElem?_eq_some_iff.1 hj).1
    simp only [bk, of_, Nat.zero_add]; rw [cell_of_any h, List.getElem?_append_left hjl]; exact hj⟩
/-- What a result is that is only read. -/
def rdr (a : Option Addr) (xs : List Value) : Res where
  fp b := ∃ p, a = some p ∧ b = p.block
  ok h := (a = none → xs = []) ∧ ∀ p, a = some p → p = ⟨p.block, 0, none⟩ ∧ ∃ junk T fr, h[p.block]? = some (.cells (xs ++ junk).toArray T fr)
  loc h h' e w := ⟨w.1, fun p hp => ⟨(w.2 p hp).1, by
    obtain ⟨j, T, fr, h1⟩ := (w.2 p hp).2
    exact ⟨j, T, fr, by rw [e p.block ⟨p, hp, rfl⟩]; exact h1⟩⟩⟩
  ins h k c e := by
    obtain ⟨p, hp, rfl⟩ := e
    obtain ⟨_, j, T, fr, h1⟩ := k.2 p hp
    exact (Array.getElem?_eq_some_iff.1 h1).1
theorem Tr.sl_rdr {w0 w : World} {L0 L : List Res} {a : Option Addr} {n : Nat} {xs : List Value} (h : Tr w0 L0 w L) (hm : rdr a xs ∈ L) (hl : xs.length = n) : Sl w 1 a n xs := by
  have h1 := h.ok _ hm
  cases a with
  | none =>
    obtain rfl := h1.1 rfl
    simp at hl
    subst hl
    exact Sl.nil w 1
  | some p =>
    obtain ⟨hp, junk, T, fr, h2⟩ := h1.2 p rfl
    have := Sl.pre_any (k := 1) (n := n) h2 (by omega)
    rw [hp]
    exact this
theorem Tr.z_rdr {w0 w : World} {L0 F : List Res} {b : Nat} {E : TypeId} {xs junk : List Value} (h : Tr w0 L0 w (clz b E (xs ++ junk) :: F)) : Tr w0 L0 w (rdr (some ⟨b, 0, none⟩) xs :: F) := by
  have hok := h.ok _ List.mem_cons_self
  refine ⟨h.os, h.tape, h.output, fun hn => ⟨(h.ahead hn).1, fun r hr => by
    rcases List.mem_cons.1 hr with rfl | h2
    · rfl
    · exact (h.ahead hn).2 r (List.mem_cons_of_mem _ h2)⟩, h.size, h.frame, h.disj.tail.cons fun s hs b' ⟨p, hp, e⟩ hb => ?_, fun r hr => ?_, fun r hr b' hb => ?_⟩
  · simp only [Option.some.injEq] at hp
    subst hp
    have e' : b' = b := e
    rw [e'] at hb
    exact h.disj.head hs b rfl hb
  · rcases List.mem_cons.1 hr with rfl | h2
    · refine ⟨fun h => by simp at h, fun p hp => ?_⟩
      simp only [Option.some.injEq] at hp
      subst hp
      exact ⟨rfl, junk, E, _, hok⟩
    · exact h.ok r (List.mem_cons_of_mem _ h2)
  · rcases List.mem_cons.1 hr with rfl | h2
    · obtain ⟨p, hp, e⟩ := hb
      simp only [Option.some.injEq] at hp
      subst hp
      have e' : b' = b := e
      rw [e']
      exact h.new _ List.mem_cons_self b rfl
    · exact h.new r (List.mem_cons_of_mem _ h2) b' hb
theorem Tr.rdr_nil {w0 w : World} {L0 L : List Res} (hT : Tr w0 L0 w L) : Tr w0 L0 w (rdr none [] :: L) :=
  ⟨hT.os, hT.tape, hT.output, fun hn => ⟨(hT.ahead hn).1, fun r hr => by
    rcases List.mem_cons.1 hr with rfl | h2
    · rfl
    · exact (hT.ahead hn).2 r h2⟩, hT.size, hT.frame, hT.disj.cons (fun s _ b ⟨p, hp, _⟩ _ => by simp at hp), fun r hr => by
    rcases List.mem_cons.1 hr with rfl | h2
    · exact ⟨fun _ => rfl, fun p hp => by simp at hp⟩
    · exact hT.ok r h2, fun r hr b hb => by
    rcases List.mem_cons.1 hr with rfl | h2
    · obtain ⟨p, hp, _⟩ := hb; simp at hp
    · exact hT.new r h2 b hb⟩
class HasD (L : List Res) (a : Option Addr) (xs : outParam (List Value)) : Prop where
  mem : rdr a xs ∈ L
instance HasD.tail {L : List Res} {r : Res} {a : Option Addr} {xs : List Value} [h : HasD L a xs] : HasD (r :: L) a xs := ⟨List.mem_cons_of_mem _ h.mem⟩
instance HasD.head {L : List Res} {a : Option Addr} {xs : List Value} : HasD (rdr a xs :: L) a xs := ⟨List.mem_cons_self⟩
def atSl (f : Nat → Nat → Res) : Value → Res
  | .slice (some a) _ c => f a.block c
  | _ => emp
theorem Tr.fresh' (w w1 : World) (o : Obj) (h1 : w1.heap = w.heap) (h2 : w1.os = w.os) (h3 : w1.tape = w.tape) (h4 : w1.output = w.output) (h5 : w.drawn ≤ w1.drawn) : Tr w [] (w1.alloc o) [pt w.heap.size o] := by
  have hs : (w1.alloc o).heap = w.heap.push o := by rw [← h1]; rfl
  refine ⟨h2, h3, h4, fun _ => ⟨h5, fun r hr => by simp only [List.mem_singleton] at hr; subst hr; rfl⟩, by rw [hs]; simp, fun b hb _ => by rw [hs, Array.getElem?_push, if_neg (by omega)], Disj.one _, ?_, ?_⟩
  · intro r hr
    simp only [List.mem_singleton] at hr
    subst hr
    show (w1.alloc o).heap[w.heap.size]? = some o
    rw [hs]; simp
  · intro r hr b hb
    simp only [List.mem_singleton] at hr
    subst hr
    have e : b = w.heap.size := hb
    exact .inl (by omega)
section
variable {P : Program} {ops : Array Oper} {Q : Exit → Act → World → Prop} {N : Nat} {U : Env} {w0 : World} {L0 L F : List Res} {ty : TypeId} {rest : List Oper} {pos : String} {after : Array Edge}
theorem bytesRow_eq (l : Bytes) (cap : Nat) : bytesRow ⟨l.toArray⟩ cap = (bv l ++ List.replicate (cap - l.length) (Value.int .u8 0)).toArray := by
  unfold bytesRow bv
  have : (⟨l.toArray⟩ : ByteArray).size = l.length := by simp [ByteArray.size]
  rw [this]
  simp
theorem e_s2b {S D E : TypeId} {x : Operand} {l : Bytes} (hs : P.underlying S = some .string) (hd : P.underlying D = some (.slice E)) (he : P.underlying E = some (.int .u8)) (hx : opv U x = some (str l)) :
    Ev P U w0 L0 L (.convert S D x) ty (fun u => ∃ b c, u = .slice (some ⟨b, 0, none⟩) l.length c) (atSl fun b c => clz b E (bv l ++ List.replicate (c - l.length) (.int .u8 0))) := by
  intro ρ w dst pos after guard hρ hT
  have hr := run_bytes_of_string (P := P) w S D E ⟨l.toArray⟩ hs hd he
  have hsz : (⟨l.toArray⟩ : ByteArray).size = l.length := by simp [ByteArray.size]
  rw [hsz, bytesRow_eq] at hr
  have hx' := hρ _ _ hx
  rw [str] at hx'
  have : (execOp ρ ⟨dst, .convert S D x, ty, pos, after, guard⟩).run P w = .ok (.value (.slice (some ⟨w.heap.size, 0, none⟩) l.length (grownCap w l.length 0 E))) (w.drew.alloc (.cells (bv l ++ List.replicate (grownCap w l.length 0 E - l.length) (Value.int .u8 0)).toArray E
        ((bv l ++ List.replicate (grownCap w l.length 0 E - l.length) (Value.int .u8 0)).toArray.size, (bv l ++ List.replicate (grownCap w l.length 0 E - l.length) (Value.int .u8 0)).toArray.size + 1))) := by
    simp only [execOp, hx', Sem.run_bind, hr, Result.andThen_ok]
    rfl
  rw [this]
  refine ⟨⟨_, _, rfl⟩, ?_⟩
  have := Tr.fresh' w w.drew (.cells (bv l ++ List.replicate (grownCap w l.length 0 E - l.length) (Value.int .u8 0)).toArray E
        ((bv l ++ List.replicate (grownCap w l.length 0 E - l.length) (Value.int .u8 0)).toArray.size, (bv l ++ List.replicate (grownCap w l.length 0 E - l.length) (Value.int .u8 0)).toArray.size + 1)) rfl rfl rfl rfl (Nat.le_succ _)
  simp only [List.size_toArray] at this ⊢
  exact this
theorem GL.s2b {d : Tmp} {S D E : TypeId} {x : Operand} {l : Bytes} (hs : P.underlying S = some .string) (hdD : P.underlying D = some (.slice E)) (he : P.underlying E = some (.int .u8)) (hx : opv U x = some (str l)) (hd : Nat.ble (d + 1) N = true)
    (hr : ∀ b c junk, GL P ops Q rest N ((d, .slice (some ⟨b, 0, none⟩) l.length c) :: U) w0 L0 (clz b E (bv l ++ junk) :: L)) : GL P ops Q (⟨some d, .convert S D x, ty, pos, after, Option.none⟩ :: rest) N U w0 L0 L :=
  GL.ev (e_s2b hs hdD he hx) hd fun v hv => by obtain ⟨b, c, rfl⟩ := hv; exact hr b c _
theorem GC.row_nil {code : Code} (k : Nat) (E : TypeId) (h : GC P code Q N U w0 L0 (row none 0 k E [] :: L)) : GC P code Q N U w0 L0 L := fun q w hE hT => h q w hE (hT.row_nil k E)
/-- A store of one cell into the first resource. -/
theorem GL.storeZ {T E : TypeId} {x y : Operand} {b off : Nat} {v : Value} {cs cs' : List Value} (hx : opv U x = some (.pointer (some ⟨b, off, none⟩))) (hy : opv U y = some v) (hc : cellsO v = some [v])
    (hS : ∀ w, (sizeOf T).run P w = .ok 1 w) (h1 : v.oneCell' = true) (hs : spliceO cs off [v] = some cs')
    (hr : GL P ops Q rest N U w0 L0 (clz b E cs' :: F)) : GL P ops Q (⟨Option.none, .store T x y, ty, pos, after, Option.none⟩ :: rest) N U w0 L0 (clz b E cs :: F) := by
  intro a w hE hT
  refine wpList_plain rfl fun K hK => ?_
  obtain ⟨h2, h3⟩ := spliceO_spec hs
  have hl : off < cs.length := by simp at h2; omega
  have hb : w.heap[b]? = some (.cells cs.toArray E (cs.length, cs.length + 1)) := hT.ok _ List.mem_cons_self
  have hcell : w.cell? ⟨b, off, none⟩ = some cs[off] := by rw [cell_of_any hb]; exact List.getElem?_eq_getElem hl
  have hfro : w.frozen? ⟨b, off, none⟩ = false := by simp [World.frozen?, hb]; omega
  have e' : cs' = cs.set off v := by
    rw [h3, List.set_eq_take_append_cons_drop, if_pos hl]; simp
  have hst : (storeCells ⟨b, off, none⟩ [v] 0).run P w = .ok () (w.setRow b cs'.toArray) := by
    have hadd : (⟨b, off, none⟩ : Addr).add 0 = ⟨b, off, none⟩ := by simp [Addr.add]
    simp only [storeCells, Sem.run_bind, hadd]
    rw [_root_.Go.run_store P w _ v _ h1, hcell]
    simp only [hfro]
    rw [setCell_eq_setRow w b off cs.toArray E _ v hb, e']
    simp
  have hx' := hE.op _ _ hx
  have hy' := hE.op _ _ hy
  have hcv : v.cells = [v].toArray := cellsO_spec hc
  have hrun : (execOp a.eval ⟨Option.none, .store T x y, ty, pos, after, Option.none⟩).run P w = .ok .skip (w.setRow b cs'.toArray) := by
    simp only [execOp, hx', hy', Instr.storeAt, Instr.sureAddr, pure_bind, storeVar, Sem.run_bind, hS, Result.andThen_ok, hcv]
    rw [if_neg (by simp)]
    simp only [hst, Result.andThen_ok]
    rfl
  unfold Oper.wp
  rw [hrun, Oper.upon_skip]
  refine hK _ _ (hr _ _ hE ?_)
  have hlen : cs'.length = cs.length := by rw [e']; simp
  have hcl : clz b E cs' = pt b (.cells cs'.toArray E (cs.length, cs.length + 1)) := by unfold clz; rw [hlen]
  rw [hcl]
  exact hT.put (i := 0) rfl (.set rfl rfl rfl (Nat.le_refl _) (setRow_heap w b _ _ E _ hb) (by simp [World.setRow]) fun k hk => setRow_other w b k _ hk)
theorem GL.own3 {ol : List Oper} {f g h : Nat → Res} {u v x : Value} {b1 b2 b3 n1 n2 n3 c1 c2 c3 : Nat} (e1 : u = .slice (some ⟨b1, 0, none⟩) n1 c1) (e2 : v = .slice (some ⟨b2, 0, none⟩) n2 c2) (e3 : x = .slice (some ⟨b3, 0, none⟩) n3 c3) (hr : GL P ops Q ol N U w0 L0 (f b1 :: g b2 :: h b3 :: F)) :
    GL P ops Q ol N U w0 L0 (atPtr f u :: atPtr g v :: atPtr h x :: F) := by subst e1 e2 e3; exact hr
end
end Go.K
