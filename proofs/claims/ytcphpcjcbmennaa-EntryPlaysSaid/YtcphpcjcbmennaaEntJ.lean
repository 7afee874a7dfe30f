/- Calls that came in, opened; are they too many? -/
import Derived.ProofKit
import Derived.OpenShut
import Derived.SizedLaws
import Derived.Lib.SmallJoins
import Derived.Test.YtcphpcjcbmennaaEntI
namespace Go.Proofs.Ytcphpcjcbmennaa
open Go Go.K Go.ChangeShapes Go.WideShapes Go.ChangeAt Go.RowKit
set_option linter.unusedVariables false
set_option linter.unusedSimpArgs false
attribute [local irreducible] Calls Ev GL GC GQ GR Code.wp
theorem list5 {α : Type} {l : List α} (h : l.length = 5) : ∃ a0 a1 a2 a3 a4, l = [a0, a1, a2, a3, a4] := by
  match l, h with
  | [a0, a1, a2, a3, a4], _ => exact ⟨a0, a1, a2, a3, a4, rfl⟩
theorem list8 {α : Type} {l : List α} (h : l.length = 8) : ∃ a0 a1 a2 a3 a4 a5 a6 a7, l = [a0, a1, a2, a3, a4, a5, a6, a7] := by
  match l, h with
  | [a0, a1, a2, a3, a4, a5, a6, a7], _ => exact ⟨a0, a1, a2, a3, a4, a5, a6, a7, rfl⟩
theorem list13 {α : Type} {l : List α} (h : l.length = 13) : ∃ a0 a1 a2 a3 a4 a5 a6 a7 a8 a9 a10 a11 a12, l = [a0, a1, a2, a3, a4, a5, a6, a7, a8, a9, a10, a11, a12] := by
  match l, h with
  | [a0, a1, a2, a3, a4, a5, a6, a7, a8, a9, a10, a11, a12], _ => exact ⟨a0, a1, a2, a3, a4, a5, a6, a7, a8, a9, a10, a11, a12, rfl⟩
theorem list20 {α : Type} {l : List α} (h : l.length = 20) : ∃ a0 a1 a2 a3 a4 a5 a6 a7 a8 a9 a10 a11 a12 a13 a14 a15 a16 a17 a18 a19, l = [a0, a1, a2, a3, a4, a5, a6, a7, a8, a9, a10, a11, a12, a13, a14, a15, a16, a17, a18, a19] := by
  match l, h with
  | [a0, a1, a2, a3, a4, a5, a6, a7, a8, a9, a10, a11, a12, a13, a14, a15, a16, a17, a18, a19], _ => exact ⟨a0, a1, a2, a3, a4, a5, a6, a7, a8, a9, a10, a11, a12, a13, a14, a15, a16, a17, a18, a19, rfl⟩

structure EGood (w : World) (x : EX) (a : Option Addr) : Prop where
  id : I64 x.id
  cls : I64 x.cls
  tick : I64 x.tick
  cost : I64 x.cost
  seq : I64 x.seq
  at_ : I64 x.at_
  size : I64 x.size
  sl : Sl w 1 a x.sv.length (strs x.sv)
  lt : x.sv.length ≤ 9223372036854775807
structure OX where
  what : Int
  e : EX
  ea : Option Addr
  ec : Nat
  id : Int
  is : Bool
  cls : Int
  seq : Int
  at_ : Int
  size : Int
instance : Inhabited OX := ⟨⟨0, EX.zero, none, 0, 0, false, 0, 0, 0, 0⟩⟩
def encP (y : OX) : List Value := [.int .i64 y.what, .int .i64 y.e.id, .int .i64 y.e.cls, .int .i64 y.e.tick, .int .i64 y.e.cost, .bool y.e.pin, .int .i64 y.e.bid, .int .i64 y.e.from_, .int .i64 y.e.to, .int .i64 y.e.many, .slice y.ea y.e.sv.length y.ec, .int .i64 y.e.seq, .int .i64 y.e.at_, .int .i64 y.e.size, .int .i64 y.id, .bool y.is, .int .i64 y.cls, .int .i64 y.seq, .int .i64 y.at_, .int .i64 y.size]
theorem encP_len (y : OX) : (encP y).length = 20 := rfl
structure OGood (w : World) (y : OX) : Prop where
  e : EGood w y.e y.ea
  id : I64 y.id
  cls : I64 y.cls
  seq : I64 y.seq
  at_ : I64 y.at_
  size : I64 y.size
theorem strs_flat : ∀ l : List Bytes, (l.flatMap fun b => [K.str b]) = strs l
  | [] => rfl
  | b :: l => by rw [List.flatMap_cons, strs_flat l]; rfl
section
variable {H : Type} {enc : TypeId × Value → H} {w : World} {held : Bool}
theorem open_strs {fuel : Nat} {cs : List Value} {x : DataW H × List MemPlace} (h : DataW.trod enc Try.prog w 0 (fun _ => true) held fuel 29 cs = some x) :
    ∃ (a : Option Addr) (c : Nat) (l : List Bytes), cs = [.slice a l.length c] ∧ l.length ≤ maxLen ∧ Sl w 1 a l.length (strs l) := by
  obtain ⟨a, n, c, l, h1, h2, h3, _⟩ := open_things (α := Bytes) (enc' := fun b => [K.str b]) (Good := fun _ => True) (k := 1) (by omega) (fun _ => rfl) Try.underlying29 (by kernel_rfl)
    (fun n cs x hx => by obtain ⟨s, rfl, _⟩ := DataW.trod_string Try.underlying9 hx; exact ⟨s.data.toList, rfl, trivial⟩) h
  rw [strs_flat] at h3
  have hl := h3.len
  rw [strs_length, Nat.mul_one] at hl
  subst hl
  exact ⟨a, c, l, h1, h2, h3⟩

theorem open_item (n : Nat) (cs : List Value) (x : DataW H × List MemPlace) (h : DataW.trod enc Try.prog w 0 (fun _ => true) held n 28 cs = some x) : ∃ (id cls tick cost : Int) (pin : Bool), cs = [.int .i64 id, .int .i64 cls, .int .i64 tick, .int .i64 cost, .bool pin] ∧ I64 id ∧ I64 cls ∧ I64 tick ∧ I64 cost := by
  obtain ⟨xs, m, _, rfl, hl, hlen, hf⟩ := DataW.trod_struct Try.underlying28 h
  have hc : Try.prog.cellsOf 28 = 5 := by kernel_rfl
  rw [hc] at hl
  obtain ⟨c0, c1, c2, c3, c4, rfl⟩ := list5 hl
  obtain ⟨x0, x1, x2, x3, x4, rfl⟩ := list5 (hlen.trans rfl)
  have z2 : Try.prog.cellsOf 2 = 1 := by kernel_rfl
  have h0 : DataW.trod enc Try.prog w 0 (fun _ => true) held m 2 [c0] = some x0 := by
    have h : DataW.trod enc Try.prog w 0 (fun _ => true) held m 2 (List.take (Try.prog.cellsOf 2) (List.drop 0 [c0, c1, c2, c3, c4])) = some x0 := hf 0 _ rfl
    rw [z2] at h
    exact h
  have z3 : Try.prog.cellsOf 3 = 1 := by kernel_rfl
  have h1 : DataW.trod enc Try.prog w 0 (fun _ => true) held m 3 [c1] = some x1 := by
    have h : DataW.trod enc Try.prog w 0 (fun _ => true) held m 3 (List.take (Try.prog.cellsOf 3) (List.drop 1 [c0, c1, c2, c3, c4])) = some x1 := hf 1 _ rfl
    rw [z3] at h
    exact h
  have h2 : DataW.trod enc Try.prog w 0 (fun _ => true) held m 2 [c2] = some x2 := by
    have h : DataW.trod enc Try.prog w 0 (fun _ => true) held m 2 (List.take (Try.prog.cellsOf 2) (List.drop 2 [c0, c1, c2, c3, c4])) = some x2 := hf 2 _ rfl
    rw [z2] at h
    exact h
  have h3 : DataW.trod enc Try.prog w 0 (fun _ => true) held m 3 [c3] = some x3 := by
    have h : DataW.trod enc Try.prog w 0 (fun _ => true) held m 3 (List.take (Try.prog.cellsOf 3) (List.drop 3 [c0, c1, c2, c3, c4])) = some x3 := hf 3 _ rfl
    rw [z3] at h
    exact h
  have z4 : Try.prog.cellsOf 4 = 1 := by kernel_rfl
  have h4 : DataW.trod enc Try.prog w 0 (fun _ => true) held m 4 [c4] = some x4 := by
    have h : DataW.trod enc Try.prog w 0 (fun _ => true) held m 4 (List.take (Try.prog.cellsOf 4) (List.drop 4 [c0, c1, c2, c3, c4])) = some x4 := hf 4 _ rfl
    rw [z4] at h
    exact h
  obtain ⟨v0, e0, _, w0⟩ := DataW.trod_int Try.underlying2 h0
  simp only [List.cons.injEq, and_true] at e0
  subst e0
  obtain ⟨v1, e1, _, w1⟩ := DataW.trod_int Try.underlying3 h1
  simp only [List.cons.injEq, and_true] at e1
  subst e1
  obtain ⟨v2, e2, _, w2⟩ := DataW.trod_int Try.underlying2 h2
  simp only [List.cons.injEq, and_true] at e2
  subst e2
  obtain ⟨v3, e3, _, w3⟩ := DataW.trod_int Try.underlying3 h3
  simp only [List.cons.injEq, and_true] at e3
  subst e3
  obtain ⟨v4, e4, _⟩ := DataW.trod_bool Try.underlying4 h4
  simp only [List.cons.injEq, and_true] at e4
  subst e4
  exact ⟨v0, v1, v2, v3, v4, rfl, bounds_i64 w0, bounds_i64 w1, bounds_i64 w2, bounds_i64 w3⟩
theorem open_brief (n : Nat) (cs : List Value) (x : DataW H × List MemPlace) (h : DataW.trod enc Try.prog w 0 (fun _ => true) held n 31 cs = some x) : ∃ (bid fr to many : Int) (a : Option Addr) (c : Nat) (l : List Bytes), cs = [.int .i64 bid, .int .i64 fr, .int .i64 to, .int .i64 many, .slice a l.length c] ∧ l.length ≤ maxLen ∧ Sl w 1 a l.length (strs l) := by
  obtain ⟨xs, m, _, rfl, hl, hlen, hf⟩ := DataW.trod_struct Try.underlying31 h
  have hc : Try.prog.cellsOf 31 = 5 := by kernel_rfl
  rw [hc] at hl
  obtain ⟨c0, c1, c2, c3, c4, rfl⟩ := list5 hl
  obtain ⟨x0, x1, x2, x3, x4, rfl⟩ := list5 (hlen.trans rfl)
  have z2 : Try.prog.cellsOf 2 = 1 := by kernel_rfl
  have h0 : DataW.trod enc Try.prog w 0 (fun _ => true) held m 2 [c0] = some x0 := by
    have h : DataW.trod enc Try.prog w 0 (fun _ => true) held m 2 (List.take (Try.prog.cellsOf 2) (List.drop 0 [c0, c1, c2, c3, c4])) = some x0 := hf 0 _ rfl
    rw [z2] at h
    exact h
  have h1 : DataW.trod enc Try.prog w 0 (fun _ => true) held m 2 [c1] = some x1 := by
    have h : DataW.trod enc Try.prog w 0 (fun _ => true) held m 2 (List.take (Try.prog.cellsOf 2) (List.drop 1 [c0, c1, c2, c3, c4])) = some x1 := hf 1 _ rfl
    rw [z2] at h
    exact h
  have h2 : DataW.trod enc Try.prog w 0 (fun _ => true) held m 2 [c2] = some x2 := by
    have h : DataW.trod enc Try.prog w 0 (fun _ => true) held m 2 (List.take (Try.prog.cellsOf 2) (List.drop 2 [c0, c1, c2, c3, c4])) = some x2 := hf 2 _ rfl
    rw [z2] at h
    exact h
  have z3 : Try.prog.cellsOf 3 = 1 := by kernel_rfl
  have h3 : DataW.trod enc Try.prog w 0 (fun _ => true) held m 3 [c3] = some x3 := by
    have h : DataW.trod enc Try.prog w 0 (fun _ => true) held m 3 (List.take (Try.prog.cellsOf 3) (List.drop 3 [c0, c1, c2, c3, c4])) = some x3 := hf 3 _ rfl
    rw [z3] at h
    exact h
  have z29 : Try.prog.cellsOf 29 = 1 := by kernel_rfl
  have h4 : DataW.trod enc Try.prog w 0 (fun _ => true) held m 29 [c4] = some x4 := by
    have h : DataW.trod enc Try.prog w 0 (fun _ => true) held m 29 (List.take (Try.prog.cellsOf 29) (List.drop 4 [c0, c1, c2, c3, c4])) = some x4 := hf 4 _ rfl
    rw [z29] at h
    exact h
  obtain ⟨v0, e0, _, w0⟩ := DataW.trod_int Try.underlying2 h0
  simp only [List.cons.injEq, and_true] at e0
  subst e0
  obtain ⟨v1, e1, _, w1⟩ := DataW.trod_int Try.underlying2 h1
  simp only [List.cons.injEq, and_true] at e1
  subst e1
  obtain ⟨v2, e2, _, w2⟩ := DataW.trod_int Try.underlying2 h2
  simp only [List.cons.injEq, and_true] at e2
  subst e2
  obtain ⟨v3, e3, _, w3⟩ := DataW.trod_int Try.underlying3 h3
  simp only [List.cons.injEq, and_true] at e3
  subst e3
  obtain ⟨a, c, l, e4, hn, hs⟩ := open_strs h4
  simp only [List.cons.injEq, and_true] at e4
  obtain rfl := e4
  exact ⟨v0, v1, v2, v3, a, c, l, rfl, hn, hs⟩
theorem open_entry (n : Nat) (cs : List Value) (x : DataW H × List MemPlace) (h : DataW.trod enc Try.prog w 0 (fun _ => true) held n 33 cs = some x) : ∃ (x : EX) (a : Option Addr) (c : Nat), cs = encE x a c ∧ EGood w x a := by
  obtain ⟨xs, m, _, rfl, hl, hlen, hf⟩ := DataW.trod_struct Try.underlying33 h
  have hc : Try.prog.cellsOf 33 = 13 := by kernel_rfl
  rw [hc] at hl
  obtain ⟨c0, c1, c2, c3, c4, c5, c6, c7, c8, c9, c10, c11, c12, rfl⟩ := list13 hl
  obtain ⟨x0, x1, x2, x3, x4, rfl⟩ := list5 (hlen.trans rfl)
  have z28 : Try.prog.cellsOf 28 = 5 := by kernel_rfl
  have h0 : DataW.trod enc Try.prog w 0 (fun _ => true) held m 28 [c0, c1, c2, c3, c4] = some x0 := by
    have h : DataW.trod enc Try.prog w 0 (fun _ => true) held m 28 (List.take (Try.prog.cellsOf 28) (List.drop 0 [c0, c1, c2, c3, c4, c5, c6, c7, c8, c9, c10, c11, c12])) = some x0 := hf 0 _ rfl
    rw [z28] at h
    exact h
  have z31 : Try.prog.cellsOf 31 = 5 := by kernel_rfl
  have h1 : DataW.trod enc Try.prog w 0 (fun _ => true) held m 31 [c5, c6, c7, c8, c9] = some x1 := by
    have h : DataW.trod enc Try.prog w 0 (fun _ => true) held m 31 (List.take (Try.prog.cellsOf 31) (List.drop 5 [c0, c1, c2, c3, c4, c5, c6, c7, c8, c9, c10, c11, c12])) = some x1 := hf 1 _ rfl
    rw [z31] at h
    exact h
  have z2 : Try.prog.cellsOf 2 = 1 := by kernel_rfl
  have h2 : DataW.trod enc Try.prog w 0 (fun _ => true) held m 2 [c10] = some x2 := by
    have h : DataW.trod enc Try.prog w 0 (fun _ => true) held m 2 (List.take (Try.prog.cellsOf 2) (List.drop 10 [c0, c1, c2, c3, c4, c5, c6, c7, c8, c9, c10, c11, c12])) = some x2 := hf 2 _ rfl
    rw [z2] at h
    exact h
  have z3 : Try.prog.cellsOf 3 = 1 := by kernel_rfl
  have h3 : DataW.trod enc Try.prog w 0 (fun _ => true) held m 3 [c11] = some x3 := by
    have h : DataW.trod enc Try.prog w 0 (fun _ => true) held m 3 (List.take (Try.prog.cellsOf 3) (List.drop 11 [c0, c1, c2, c3, c4, c5, c6, c7, c8, c9, c10, c11, c12])) = some x3 := hf 3 _ rfl
    rw [z3] at h
    exact h
  have h4 : DataW.trod enc Try.prog w 0 (fun _ => true) held m 3 [c12] = some x4 := by
    have h : DataW.trod enc Try.prog w 0 (fun _ => true) held m 3 (List.take (Try.prog.cellsOf 3) (List.drop 12 [c0, c1, c2, c3, c4, c5, c6, c7, c8, c9, c10, c11, c12])) = some x4 := hf 4 _ rfl
    rw [z3] at h
    exact h
  obtain ⟨id, cls, tick, cost, pin, e0, g1, g2, g3, g4⟩ := open_item _ _ _ h0
  simp only [List.cons.injEq, and_true] at e0
  obtain ⟨rfl, rfl, rfl, rfl, rfl⟩ := e0
  obtain ⟨bid, fr, to, many, a, c, l, e1, hn, hs⟩ := open_brief _ _ _ h1
  simp only [List.cons.injEq, and_true] at e1
  obtain ⟨rfl, rfl, rfl, rfl, rfl⟩ := e1
  obtain ⟨v2, e2, _, w2⟩ := DataW.trod_int Try.underlying2 h2
  simp only [List.cons.injEq, and_true] at e2
  subst e2
  obtain ⟨v3, e3, _, w3⟩ := DataW.trod_int Try.underlying3 h3
  simp only [List.cons.injEq, and_true] at e3
  subst e3
  obtain ⟨v4, e4, _, w4⟩ := DataW.trod_int Try.underlying3 h4
  simp only [List.cons.injEq, and_true] at e4
  subst e4
  unfold maxLen at hn
  exact ⟨⟨id, cls, tick, cost, pin, bid, fr, to, many, l, v2, v3, v4⟩, a, c, rfl, g1, g2, g3, g4, bounds_i64 w2, bounds_i64 w3, bounds_i64 w4, hs, hn⟩
theorem open_op (n : Nat) (cs : List Value) (x : DataW H × List MemPlace) (h : DataW.trod enc Try.prog w 0 (fun _ => true) held n 35 cs = some x) : ∃ y, cs = encP y ∧ OGood w y := by
  obtain ⟨xs, m, _, rfl, hl, hlen, hf⟩ := DataW.trod_struct Try.underlying35 h
  have hc : Try.prog.cellsOf 35 = 20 := by kernel_rfl
  rw [hc] at hl
  obtain ⟨c0, c1, c2, c3, c4, c5, c6, c7, c8, c9, c10, c11, c12, c13, c14, c15, c16, c17, c18, c19, rfl⟩ := list20 hl
  obtain ⟨x0, x1, x2, x3, x4, x5, x6, x7, rfl⟩ := list8 (hlen.trans rfl)
  have z3 : Try.prog.cellsOf 3 = 1 := by kernel_rfl
  have h0 : DataW.trod enc Try.prog w 0 (fun _ => true) held m 3 [c0] = some x0 := by
    have h : DataW.trod enc Try.prog w 0 (fun _ => true) held m 3 (List.take (Try.prog.cellsOf 3) (List.drop 0 [c0, c1, c2, c3, c4, c5, c6, c7, c8, c9, c10, c11, c12, c13, c14, c15, c16, c17, c18, c19])) = some x0 := hf 0 _ rfl
    rw [z3] at h
    exact h
  have z33 : Try.prog.cellsOf 33 = 13 := by kernel_rfl
  have h1 : DataW.trod enc Try.prog w 0 (fun _ => true) held m 33 [c1, c2, c3, c4, c5, c6, c7, c8, c9, c10, c11, c12, c13] = some x1 := by
    have h : DataW.trod enc Try.prog w 0 (fun _ => true) held m 33 (List.take (Try.prog.cellsOf 33) (List.drop 1 [c0, c1, c2, c3, c4, c5, c6, c7, c8, c9, c10, c11, c12, c13, c14, c15, c16, c17, c18, c19])) = some x1 := hf 1 _ rfl
    rw [z33] at h
    exact h
  have z2 : Try.prog.cellsOf 2 = 1 := by kernel_rfl
  have h2 : DataW.trod enc Try.prog w 0 (fun _ => true) held m 2 [c14] = some x2 := by
    have h : DataW.trod enc Try.prog w 0 (fun _ => true) held m 2 (List.take (Try.prog.cellsOf 2) (List.drop 14 [c0, c1, c2, c3, c4, c5, c6, c7, c8, c9, c10, c11, c12, c13, c14, c15, c16, c17, c18, c19])) = some x2 := hf 2 _ rfl
    rw [z2] at h
    exact h
  have z4 : Try.prog.cellsOf 4 = 1 := by kernel_rfl
  have h3 : DataW.trod enc Try.prog w 0 (fun _ => true) held m 4 [c15] = some x3 := by
    have h : DataW.trod enc Try.prog w 0 (fun _ => true) held m 4 (List.take (Try.prog.cellsOf 4) (List.drop 15 [c0, c1, c2, c3, c4, c5, c6, c7, c8, c9, c10, c11, c12, c13, c14, c15, c16, c17, c18, c19])) = some x3 := hf 3 _ rfl
    rw [z4] at h
    exact h
  have h4 : DataW.trod enc Try.prog w 0 (fun _ => true) held m 3 [c16] = some x4 := by
    have h : DataW.trod enc Try.prog w 0 (fun _ => true) held m 3 (List.take (Try.prog.cellsOf 3) (List.drop 16 [c0, c1, c2, c3, c4, c5, c6, c7, c8, c9, c10, c11, c12, c13, c14, c15, c16, c17, c18, c19])) = some x4 := hf 4 _ rfl
    rw [z3] at h
    exact h
  have h5 : DataW.trod enc Try.prog w 0 (fun _ => true) held m 2 [c17] = some x5 := by
    have h : DataW.trod enc Try.prog w 0 (fun _ => true) held m 2 (List.take (Try.prog.cellsOf 2) (List.drop 17 [c0, c1, c2, c3, c4, c5, c6, c7, c8, c9, c10, c11, c12, c13, c14, c15, c16, c17, c18, c19])) = some x5 := hf 5 _ rfl
    rw [z2] at h
    exact h
  have h6 : DataW.trod enc Try.prog w 0 (fun _ => true) held m 3 [c18] = some x6 := by
    have h : DataW.trod enc Try.prog w 0 (fun _ => true) held m 3 (List.take (Try.prog.cellsOf 3) (List.drop 18 [c0, c1, c2, c3, c4, c5, c6, c7, c8, c9, c10, c11, c12, c13, c14, c15, c16, c17, c18, c19])) = some x6 := hf 6 _ rfl
    rw [z3] at h
    exact h
  have h7 : DataW.trod enc Try.prog w 0 (fun _ => true) held m 3 [c19] = some x7 := by
    have h : DataW.trod enc Try.prog w 0 (fun _ => true) held m 3 (List.take (Try.prog.cellsOf 3) (List.drop 19 [c0, c1, c2, c3, c4, c5, c6, c7, c8, c9, c10, c11, c12, c13, c14, c15, c16, c17, c18, c19])) = some x7 := hf 7 _ rfl
    rw [z3] at h
    exact h
  obtain ⟨v0, e0, _, w0⟩ := DataW.trod_int Try.underlying3 h0
  simp only [List.cons.injEq, and_true] at e0
  subst e0
  obtain ⟨x, a, c, e1, hg⟩ := open_entry _ _ _ h1
  simp only [encE, List.cons.injEq, and_true] at e1
  obtain ⟨rfl, rfl, rfl, rfl, rfl, rfl, rfl, rfl, rfl, rfl, rfl, rfl, rfl⟩ := e1
  obtain ⟨v2, e2, _, w2⟩ := DataW.trod_int Try.underlying2 h2
  simp only [List.cons.injEq, and_true] at e2
  subst e2
  obtain ⟨v3, e3, _⟩ := DataW.trod_bool Try.underlying4 h3
  simp only [List.cons.injEq, and_true] at e3
  subst e3
  obtain ⟨v4, e4, _, w4⟩ := DataW.trod_int Try.underlying3 h4
  simp only [List.cons.injEq, and_true] at e4
  subst e4
  obtain ⟨v5, e5, _, w5⟩ := DataW.trod_int Try.underlying2 h5
  simp only [List.cons.injEq, and_true] at e5
  subst e5
  obtain ⟨v6, e6, _, w6⟩ := DataW.trod_int Try.underlying3 h6
  simp only [List.cons.injEq, and_true] at e6
  subst e6
  obtain ⟨v7, e7, _, w7⟩ := DataW.trod_int Try.underlying3 h7
  simp only [List.cons.injEq, and_true] at e7
  subst e7
  exact ⟨⟨v0, x, a, c, v2, v3, v4, v5, v6, v7⟩, rfl, hg, bounds_i64 w2, bounds_i64 w4, bounds_i64 w5, bounds_i64 w6, bounds_i64 w7⟩

theorem open_ops {fuel : Nat} {cs : List Value} {x : DataW H × List MemPlace} (h : DataW.trod enc Try.prog w 0 (fun _ => true) held fuel 22 cs = some x) :
    ∃ (a : Option Addr) (n c : Nat) (l : List OX), cs = [.slice a n c] ∧ n ≤ maxLen ∧ Sl w 20 a n (l.flatMap encP) ∧ ∀ y ∈ l, OGood w y :=
  open_things (by omega) encP_len Try.underlying22 (by kernel_rfl) open_op h
end
theorem great_end {p q : Prop} [Decidable p] (h : ¬ p → q) : decide p = false → q := fun hd => h (of_decide_eq_false hd)
theorem great_all {l : List OX} {x : Nat} (h : ∀ j q, j < x → l[j]? = some q → q.e.sv.length < 9000) (hx : l.length ≤ x) : ∀ q ∈ l, q.e.sv.length ≤ 9000 := fun q hq => by
  obtain ⟨j, hj⟩ := List.mem_iff_getElem?.1 hq
  have := h j q (Nat.lt_of_lt_of_le (List.getElem?_eq_some_iff.1 hj).1 hx) hj
  omega
theorem great_next {l : List OX} {x : Nat} {q : OX} (h : ∀ j q, j < x → l[j]? = some q → q.e.sv.length < 9000) (hq : l[x]? = some q) (hs : q.e.sv.length < 9000) : ∀ j q, j < x + 1 → l[j]? = some q → q.e.sv.length < 9000 := fun j p hj hp => by
  rcases (by omega : j < x ∨ j = x) with h1 | rfl
  · exact h j p h1 hp
  · rw [hq] at hp; have := Option.some.inj hp; subst this; exact hs

end Go.Proofs.Ytcphpcjcbmennaa
