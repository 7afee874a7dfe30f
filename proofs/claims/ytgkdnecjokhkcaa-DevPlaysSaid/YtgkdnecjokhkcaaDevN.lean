/- Calls that write one behind the other, and calls that came in. -/
import Derived.ProofKit
import Derived.OpenShut
import Derived.Test.YtgkdnecjokhkcaaDevH
import Derived.Test.YtgkdnecjokhkcaaDevM
import Derived.Test.YtgkdnecjokhkcaaKe
namespace Go.Proofs.Ytgkdnecjokhkcaa
open Go Go.K Go.ChangeShapes Go.WideShapes Go.ChangeAt Go.RowKit
set_option linter.unusedVariables false
set_option linter.unusedSimpArgs false
attribute [local irreducible] Calls Ev GL GC GQ GR Code.wp
/-! ### Calls that write, in order -/
def at7 (a : Int) : Nat := (BitVec.ofInt 64 a &&& BitVec.ofInt 64 7).toNat
theorem at7_lt (a : Int) : at7 a < 8 := by
  unfold at7
  rw [BitVec.toNat_and]
  exact Nat.lt_of_le_of_lt Nat.and_le_right (by decide)
theorem at7_val (a : Int) : IntKind.i64.wrap ((BitVec.ofInt IntKind.i64.bits a &&& BitVec.ofInt IntKind.i64.bits 7).toNat : Int) = (at7 a : Int) := by
  have h := at7_lt a
  have e : (BitVec.ofInt IntKind.i64.bits a &&& BitVec.ofInt IntKind.i64.bits 7).toNat = at7 a := rfl
  rw [e, wrap_i64 (by omega) (by omega)]
def put1 (f : Nat → UInt8) (q : OX) : Nat → UInt8 := fun j => if j = at7 q.at_ then q.c else f j
def puts (f : Nat → UInt8) (l : List OX) : Nat → UInt8 := l.foldl put1 f
theorem puts_next {f : Nat → UInt8} {l : List OX} {x : Nat} {q : OX} (h : l[x]? = some q) : puts f (l.take (x + 1)) = put1 (puts f (l.take x)) q := by
  unfold puts
  rw [List.take_add_one, h, List.foldl_append]
  rfl
theorem puts_zero (f : Nat → UInt8) (l : List OX) : puts f (l.take 0) = f := rfl
theorem puts_all {f : Nat → UInt8} {l : List OX} {n : Nat} (h : l.length = n) : puts f (l.take n) = puts f l := by rw [List.take_of_length_le (by omega)]
structure Holds (s : DS) (f : Nat → UInt8) : Prop where
  up : Up 8 s
  val : ∀ j, j < 8 → s.A j = secOf (f j)
theorem Holds.new : Holds (DS.new 8) (fun _ => 0) := ⟨Up.new 8, fun j hj => by
  show (List.replicate 8 (secOf 0))[j]?.getD (secOf 0) = _
  rw [List.getElem?_replicate, if_pos hj]; rfl⟩
theorem Holds.write {s : DS} {f : Nat → UInt8} (h : Holds s f) {i : Nat} (hi : i < 8) (c : UInt8) : Holds (s.write i (secOf c).1).1 (fun j => if j = i then c else f j) ∧ ∀ j, (s.write i (secOf c).1).1.K j = s.K j := by
  obtain ⟨h1, _, h3, h4, _⟩ := h.up.write hi (secOf c)
  refine ⟨⟨h1, fun j hj => ?_⟩, h3⟩
  rw [h4]
  by_cases hj2 : j = i
  · simp only [hj2, if_true]
  · simp only [hj2, if_false]; exact h.val j hj
theorem Holds.put {s : DS} {f : Nat → UInt8} (h : Holds s f) (q : OX) : Holds (s.write (at7 q.at_) (secOf q.c).1).1 (put1 f q) ∧ ∀ j, (s.write (at7 q.at_) (secOf q.c).1).1.K j = s.K j := h.write (at7_lt _) q.c
theorem Holds.flush {s : DS} {f : Nat → UInt8} (h : Holds s f) : Holds s.flush.1 f ∧ ∀ j, j < 8 → s.flush.1.K j = secOf (f j) := by
  obtain ⟨h1, _, h3, h4, _⟩ := h.up.flush
  exact ⟨⟨h1, fun j hj => (h4 j hj).trans (h.val j hj)⟩, fun j hj => (h3 j hj).trans (h.val j hj)⟩
theorem Holds.read {s : DS} {f : Nat → UInt8} (h : Holds s f) {i : Nat} (hi : i < 8) : s.read i = ((secOf (f i)).1, 0) := by rw [h.up.read hi, h.val i hi]
theorem Holds.all {s : DS} {f : Nat → UInt8} (h : Holds s f) : Holds (s.boot (List.replicate 8 true) []) f := ⟨DS.boot_up h.up.len _ _, fun j hj => (DS.boot_all (by have := h.up.len; omega) (by have := h.up.len; omega)).trans (h.val j hj)⟩
theorem holds_none {s : DS} {f : Nat → UInt8} (h : Up 8 s) (hk : ∀ j, j < 8 → s.K j = secOf (f j)) : Holds (s.boot [] []) f := ⟨DS.boot_up h.len _ _, fun j hj => (DS.boot_none (by have := h.len; omega)).trans (hk j hj)⟩
/-! Bytes in an array, strings in an array. -/
def bl (f : Nat → UInt8) : List Value := (List.range 8).map fun j => .int .u8 ((f j).toNat : Int)
theorem bl_get {f : Nat → UInt8} {o x : Nat} (hx : x < 8) (ho : o = x) : (bl f)[o]? = some (.int .u8 ((f x).toNat : Int)) := by
  subst ho
  unfold bl
  rw [List.getElem?_map, List.getElem?_range hx]; rfl
theorem splice_at {cs : List Value} {o : Nat} {v : Value} (ho : o < cs.length) : spliceO cs o [v] = some (cs.set o v) := by
  rw [spliceO_of (by simp; omega)]
  congr 1
  rw [List.set_eq_take_append_cons_drop, if_pos ho]
  simp
theorem bl_set {f : Nat → UInt8} {o x : Nat} {c : UInt8} (hx : x < 8) (ho : o = x) : spliceO (bl f) o [.int .u8 (c.toNat : Int)] = some (bl fun j => if j = x then c else f j) := by
  subst ho
  rw [splice_at (by simp [bl]; exact hx)]
  congr 1
  refine List.ext_getElem? fun j => ?_
  by_cases hj : j < 8
  · rw [bl_get hj rfl]
    by_cases e : j = o
    · subst e; rw [List.getElem?_set_self (by simp [bl]; exact hx)]; simp
    · rw [List.getElem?_set_ne (by omega), bl_get hj rfl]; simp [e]
  · rw [List.getElem?_eq_none (by simp [bl]; omega), List.getElem?_eq_none (by simp [bl]; omega)]
def sl8 (f : Nat → Bytes) : List Value := (List.range 8).map fun j => str (f j)
theorem sl8_get {f : Nat → Bytes} {o x : Nat} (hx : x < 8) (ho : o = x) : (sl8 f)[o]? = some (str (f x)) := by
  subst ho
  unfold sl8
  rw [List.getElem?_map, List.getElem?_range hx]; rfl
theorem sl8_set {f : Nat → Bytes} {o x : Nat} {l : Bytes} (hx : x < 8) (ho : o = x) : spliceO (sl8 f) o [str l] = some (sl8 fun j => if j = x then l else f j) := by
  subst ho
  rw [splice_at (by simp [sl8]; exact hx)]
  congr 1
  refine List.ext_getElem? fun j => ?_
  by_cases hj : j < 8
  · rw [sl8_get hj rfl]
    by_cases e : j = o
    · subst e; rw [List.getElem?_set_self (by simp [sl8]; exact hx)]; simp
    · rw [List.getElem?_set_ne (by omega), sl8_get hj rfl]; simp [e]
  · rw [List.getElem?_eq_none (by simp [sl8]; omega), List.getElem?_eq_none (by simp [sl8]; omega)]
/-! Calls that came in. -/
instance : Inhabited OX := ⟨⟨0, 0, 0, none, 0, 0, none, 0, 0, none, 0, 0⟩⟩
def OGood (q : OX) : Prop := I64 q.what ∧ I64 q.at_
theorem list6 {α : Type} {l : List α} (h : l.length = 6) : ∃ a b c d e f, l = [a, b, c, d, e, f] := by
  match l, h with
  | [a, b, c, d, e, f], _ => exact ⟨a, b, c, d, e, f, rfl⟩
section
variable {H : Type} {enc : TypeId × Value → H} {w : World} {held : Bool}
theorem open_op (n : Nat) (cs : List Value) (x : DataW H × List MemPlace) (h : DataW.trod enc Try.prog w 0 (fun _ => true) held n 33 cs = some x) : ∃ y, cs = encO y ∧ OGood y := by
  obtain ⟨xs, m, _, rfl, hl, hlen, hf⟩ := DataW.trod_struct Try.underlying33 h
  have hc : Try.prog.cellsOf 33 = 6 := by kernel_rfl
  rw [hc] at hl
  obtain ⟨c0, c1, c2, c3, c4, c5, rfl⟩ := list6 hl
  obtain ⟨x0, x1, x2, x3, x4, x5, rfl⟩ := list6 (hlen.trans rfl)
  have ci : Try.prog.cellsOf 3 = 1 := by kernel_rfl
  have cu : Try.prog.cellsOf 5 = 1 := by kernel_rfl
  have cb : Try.prog.cellsOf 29 = 1 := by kernel_rfl
  have ck : Try.prog.cellsOf 30 = 1 := by kernel_rfl
  have ch : Try.prog.cellsOf 31 = 1 := by kernel_rfl
  have h0 : DataW.trod enc Try.prog w 0 (fun _ => true) held m 3 [c0] = some x0 := by
    have h : DataW.trod enc Try.prog w 0 (fun _ => true) held m 3 (List.take (Try.prog.cellsOf 3) (List.drop 0 [c0, c1, c2, c3, c4, c5])) = some x0 := hf 0 _ rfl
    rw [ci] at h
    exact h
  have h1 : DataW.trod enc Try.prog w 0 (fun _ => true) held m 3 [c1] = some x1 := by
    have h : DataW.trod enc Try.prog w 0 (fun _ => true) held m 3 (List.take (Try.prog.cellsOf 3) (List.drop 1 [c0, c1, c2, c3, c4, c5])) = some x1 := hf 1 _ rfl
    rw [ci] at h
    exact h
  have h2 : DataW.trod enc Try.prog w 0 (fun _ => true) held m 5 [c2] = some x2 := by
    have h : DataW.trod enc Try.prog w 0 (fun _ => true) held m 5 (List.take (Try.prog.cellsOf 5) (List.drop 2 [c0, c1, c2, c3, c4, c5])) = some x2 := hf 2 _ rfl
    rw [cu] at h
    exact h
  have h3 : DataW.trod enc Try.prog w 0 (fun _ => true) held m 29 [c3] = some x3 := by
    have h : DataW.trod enc Try.prog w 0 (fun _ => true) held m 29 (List.take (Try.prog.cellsOf 29) (List.drop 3 [c0, c1, c2, c3, c4, c5])) = some x3 := hf 3 _ rfl
    rw [cb] at h
    exact h
  have h4 : DataW.trod enc Try.prog w 0 (fun _ => true) held m 30 [c4] = some x4 := by
    have h : DataW.trod enc Try.prog w 0 (fun _ => true) held m 30 (List.take (Try.prog.cellsOf 30) (List.drop 4 [c0, c1, c2, c3, c4, c5])) = some x4 := hf 4 _ rfl
    rw [ck] at h
    exact h
  have h5 : DataW.trod enc Try.prog w 0 (fun _ => true) held m 31 [c5] = some x5 := by
    have h : DataW.trod enc Try.prog w 0 (fun _ => true) held m 31 (List.take (Try.prog.cellsOf 31) (List.drop 5 [c0, c1, c2, c3, c4, c5])) = some x5 := hf 5 _ rfl
    rw [ch] at h
    exact h
  obtain ⟨a, e0, _, w0⟩ := DataW.trod_int Try.underlying3 h0
  obtain ⟨b, e1, _, w1⟩ := DataW.trod_int Try.underlying3 h1
  obtain ⟨c, e2, _, w2⟩ := DataW.trod_int Try.underlying5 h2
  obtain ⟨ba, bn, bc, e3, _⟩ := open_slv Try.underlying29 h3
  obtain ⟨ka, kn, kc, e4, _⟩ := open_slv Try.underlying30 h4
  obtain ⟨ha, hn, hc', e5, _⟩ := open_slv Try.underlying31 h5
  simp only [List.cons.injEq, and_true] at e0 e1 e2 e3 e4 e5
  subst e0 e1 e2 e3 e4 e5
  have bc8 := bounds_u8 w2
  obtain ⟨c, rfl⟩ := Int.eq_ofNat_of_zero_le bc8.1
  refine ⟨⟨a, b, UInt8.ofNat c, ba, bn, bc, ka, kn, kc, ha, hn, hc'⟩, ?_, ⟨bounds_i64 w0, bounds_i64 w1⟩⟩
  simp only [encO, List.cons.injEq, true_and, and_true, Value.int.injEq]
  rw [UInt8.toNat_ofNat_of_lt' (by show c < 256; omega)]
theorem open_ops {fuel : Nat} {cs : List Value} {x : DataW H × List MemPlace} (h : DataW.trod enc Try.prog w 0 (fun _ => true) held fuel 22 cs = some x) :
    ∃ (a : Option Addr) (n c : Nat) (l : List OX), cs = [.slice a n c] ∧ n ≤ maxLen ∧ Sl w 6 a n (l.flatMap encO) ∧ ∀ y ∈ l, OGood y :=
  open_things (by omega) encO_len Try.underlying22 (by kernel_rfl) open_op h
end
section
variable {ops : Array Oper} {Q : Exit → Act → World → Prop} {N : Nat} {U : Env} {w0 : World} {L0 L F : List Res} {ty : TypeId} {rest : List Oper} {pos : String} {after : Array Edge} {xs : List Operand} {tys : Array TypeId} {t : Tmp}
theorem gl_great {a : Option Addr} {n c : Nat} {l : List OX} (hf : ∀ args w, (callFunc 10 args).run Try.prog w = .ok (.enter 10 args) w) (hx : opvs U xs = some [.slice a n c])
    (hS : ∀ w, Tr w0 L0 w L → Sl w 6 a n (l.flatMap encO)) (hn : n ≤ 9223372036854775807) (hd : Nat.ble (t + 1) N = true)
    (hr : ∀ gr : Bool, (gr = false → n ≤ 200) → GL Try.prog ops Q rest N ((t, .bool gr) :: U) w0 L0 L) : GL Try.prog ops Q (⟨some t, .call ⟨.value (.func 10), xs.toArray, tys⟩, ty, pos, after, Option.none⟩ :: rest) N U w0 L0 L :=
  GL.callM (α := Bool) (l := []) (Pv := fun gr v => v = .bool gr ∧ (gr = false → n ≤ 200)) (l' := fun _ => []) hf hx (Sub.refl _)
    (fun w hT => (great_con (hS w hT) hn).mono fun e w' ⟨gr, h1, h2, h3⟩ => ⟨gr, _, h1, ⟨rfl, h2⟩, h3⟩) hd fun gr v hv => by obtain ⟨rfl, h⟩ := hv; exact hr gr h
end

end Go.Proofs.Ytgkdnecjokhkcaa
