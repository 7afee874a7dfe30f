/- Tables that came in, opened. -/
import Derived.ProofKit
import Derived.OpenShut
import Derived.SizedLaws
import Derived.Lib.SmallJoins
import Derived.Test.YtdbedajaapamhaaGreatTabN
import Derived.Test.YtdbedajaapamhaaGreatKp
namespace Go.Proofs.YtdbedajaapamhaaGreat
open Go Go.K Go.ChangeShapes Go.WideShapes Go.ChangeAt Go.RowKit
set_option linter.unusedVariables false
set_option linter.unusedSimpArgs false
attribute [local irreducible] Calls Ev GL GC GQ GR Code.wp

theorem list2 {α : Type} {l : List α} (h : l.length = 2) : ∃ a0 a1, l = [a0, a1] := by
  match l, h with
  | [a0, a1], _ => exact ⟨a0, a1, rfl⟩

theorem list3 {α : Type} {l : List α} (h : l.length = 3) : ∃ a0 a1 a2, l = [a0, a1, a2] := by
  match l, h with
  | [a0, a1, a2], _ => exact ⟨a0, a1, a2, rfl⟩

section

variable {H : Type} {enc : TypeId × Value → H} {w : World} {held : Bool}

theorem open_ext (n : Nat) (cs : List Value) (x : DataW H × List MemPlace) (h : DataW.trod enc Tryz.prog w 0 (fun _ => true) held n 82 cs = some x) : ∃ y : Ext, cs = encX.f y ∧ True := by
  obtain ⟨xs, m, _, rfl, hl, hlen, hf⟩ := DataW.trod_struct Tryz.underlying82 h
  have hc : Tryz.prog.cellsOf 82 = 2 := by kernel_rfl
  rw [hc] at hl
  obtain ⟨c0, c1, rfl⟩ := list2 hl
  obtain ⟨x0, x1, rfl⟩ := list2 (hlen.trans rfl)
  have z2 : Tryz.prog.cellsOf 2 = 1 := by kernel_rfl
  have h0 : DataW.trod enc Tryz.prog w 0 (fun _ => true) held m 2 [c0] = some x0 := by
    have h : DataW.trod enc Tryz.prog w 0 (fun _ => true) held m 2 (List.take (Tryz.prog.cellsOf 2) (List.drop 0 [c0, c1])) = some x0 := hf 0 _ rfl
    rw [z2] at h
    exact h
  have z3 : Tryz.prog.cellsOf 3 = 1 := by kernel_rfl
  have h1 : DataW.trod enc Tryz.prog w 0 (fun _ => true) held m 3 [c1] = some x1 := by
    have h : DataW.trod enc Tryz.prog w 0 (fun _ => true) held m 3 (List.take (Tryz.prog.cellsOf 3) (List.drop 1 [c0, c1])) = some x1 := hf 1 _ rfl
    rw [z3] at h
    exact h
  obtain ⟨v0, e0, _, w0⟩ := DataW.trod_int Tryz.underlying2 h0
  simp only [List.cons.injEq, and_true] at e0
  subst e0
  obtain ⟨v1, e1, _, w1⟩ := DataW.trod_int Tryz.underlying3 h1
  simp only [List.cons.injEq, and_true] at e1
  subst e1
  exact ⟨⟨v0, v1⟩, rfl, trivial⟩

theorem open_exts {fuel : Nat} {cs : List Value} {x : DataW H × List MemPlace} (h : DataW.trod enc Tryz.prog w 0 (fun _ => true) held fuel 29 cs = some x) :
    ∃ (a : Option Addr) (c : Nat) (l : List Ext), cs = [.slice a l.length c] ∧ l.length ≤ maxLen ∧ l.length ≤ c ∧ Old w [] a encX l ∧ ∀ y ∈ l, True :=
  open_row Tryz.underlying29 (by kernel_rfl) open_ext h

theorem open_tab (n : Nat) (cs : List Value) (x : DataW H × List MemPlace) (h : DataW.trod enc Tryz.prog w 0 (fun _ => true) held n 31 cs = some x) : ∃ (t : Tab) (a : Option Addr) (c : Nat), cs = tabC t a c ∧ t.exts.length ≤ maxLen ∧ t.exts.length ≤ c ∧ Old w [] a encX t.exts := by
  obtain ⟨xs, m, _, rfl, hl, hlen, hf⟩ := DataW.trod_struct Tryz.underlying31 h
  have hc : Tryz.prog.cellsOf 31 = 3 := by kernel_rfl
  rw [hc] at hl
  obtain ⟨c0, c1, c2, rfl⟩ := list3 hl
  obtain ⟨x0, x1, x2, rfl⟩ := list3 (hlen.trans rfl)
  have z2 : Tryz.prog.cellsOf 2 = 1 := by kernel_rfl
  have h0 : DataW.trod enc Tryz.prog w 0 (fun _ => true) held m 2 [c0] = some x0 := by
    have h : DataW.trod enc Tryz.prog w 0 (fun _ => true) held m 2 (List.take (Tryz.prog.cellsOf 2) (List.drop 0 [c0, c1, c2])) = some x0 := hf 0 _ rfl
    rw [z2] at h
    exact h
  have z3 : Tryz.prog.cellsOf 3 = 1 := by kernel_rfl
  have h1 : DataW.trod enc Tryz.prog w 0 (fun _ => true) held m 3 [c1] = some x1 := by
    have h : DataW.trod enc Tryz.prog w 0 (fun _ => true) held m 3 (List.take (Tryz.prog.cellsOf 3) (List.drop 1 [c0, c1, c2])) = some x1 := hf 1 _ rfl
    rw [z3] at h
    exact h
  have z29 : Tryz.prog.cellsOf 29 = 1 := by kernel_rfl
  have h2 : DataW.trod enc Tryz.prog w 0 (fun _ => true) held m 29 [c2] = some x2 := by
    have h : DataW.trod enc Tryz.prog w 0 (fun _ => true) held m 29 (List.take (Tryz.prog.cellsOf 29) (List.drop 2 [c0, c1, c2])) = some x2 := hf 2 _ rfl
    rw [z29] at h
    exact h
  obtain ⟨v0, e0, _, w0⟩ := DataW.trod_int Tryz.underlying2 h0
  simp only [List.cons.injEq, and_true] at e0
  subst e0
  obtain ⟨v1, e1, _, w1⟩ := DataW.trod_int Tryz.underlying3 h1
  simp only [List.cons.injEq, and_true] at e1
  subst e1
  obtain ⟨a, c, l, e2, hn, hc, ho, _⟩ := open_exts h2
  simp only [List.cons.injEq, and_true] at e2
  obtain rfl := e2
  exact ⟨⟨v0, v1, l⟩, a, c, rfl, hn, hc, ho⟩

end
end Go.Proofs.YtdbedajaapamhaaGreat
