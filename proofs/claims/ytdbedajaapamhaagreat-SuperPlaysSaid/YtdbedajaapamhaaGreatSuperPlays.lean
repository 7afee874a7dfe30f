/- SuperPlays returns true for every device and all calls. -/
import Derived.ProofKit
import Derived.OpenShut
import Derived.SizedLaws
import Derived.Lib.SmallJoins
import Derived.Test.YtdbedajaapamhaaGreatRows
import Derived.Test.YtdbedajaapamhaaGreatSuP
namespace Go.Proofs.YtdbedajaapamhaaGreat
open Go Go.K Go.ChangeShapes Go.WideShapes Go.ChangeAt Go.RowKit Go.Joins
set_option linter.unusedVariables false
set_option linter.unusedSimpArgs false
attribute [local irreducible] Calls Ev GL GC GQ GR Code.wp
theorem own : ownKnob Tryz.prog.godebug = none := by kernel_rfl
theorem laidOut : laidOutB Tryz.prog = true := by kernel_rfl
theorem list6 {α : Type} {l : List α} (h : l.length = 6) : ∃ a0 a1 a2 a3 a4 a5, l = [a0, a1, a2, a3, a4, a5] := by
  match l, h with
  | [a0, a1, a2, a3, a4, a5], _ => exact ⟨a0, a1, a2, a3, a4, a5, rfl⟩
theorem list10 {α : Type} {l : List α} (h : l.length = 10) : ∃ a0 a1 a2 a3 a4 a5 a6 a7 a8 a9, l = [a0, a1, a2, a3, a4, a5, a6, a7, a8, a9] := by
  match l, h with
  | [a0, a1, a2, a3, a4, a5, a6, a7, a8, a9], _ => exact ⟨a0, a1, a2, a3, a4, a5, a6, a7, a8, a9, rfl⟩
section
variable {H : Type} {enc : TypeId × Value → H} {w : World} {held : Bool}
theorem open_hurtx (n : Nat) (cs : List Value) (x : DataW H × List MemPlace) (h : DataW.trod enc Tryz.prog w 0 (fun _ => true) held n 73 cs = some x) : ∃ x : HX, cs = encHX.f x ∧ x.bits < 4294967296 := by
  obtain ⟨xs, m, _, rfl, hl, hlen, hf⟩ := DataW.trod_struct Tryz.underlying73 h
  have hc : Tryz.prog.cellsOf 73 = 3 := by kernel_rfl
  rw [hc] at hl
  obtain ⟨c0, c1, c2, rfl⟩ := list3 hl
  obtain ⟨x0, x1, x2, rfl⟩ := list3 (hlen.trans rfl)
  have z3 : Tryz.prog.cellsOf 3 = 1 := by kernel_rfl
  have h0 : DataW.trod enc Tryz.prog w 0 (fun _ => true) held m 3 [c0] = some x0 := by
    have h : DataW.trod enc Tryz.prog w 0 (fun _ => true) held m 3 (List.take (Tryz.prog.cellsOf 3) (List.drop 0 [c0, c1, c2])) = some x0 := hf 0 _ rfl
    rw [z3] at h
    exact h
  have h1 : DataW.trod enc Tryz.prog w 0 (fun _ => true) held m 3 [c1] = some x1 := by
    have h : DataW.trod enc Tryz.prog w 0 (fun _ => true) held m 3 (List.take (Tryz.prog.cellsOf 3) (List.drop 1 [c0, c1, c2])) = some x1 := hf 1 _ rfl
    rw [z3] at h
    exact h
  have z71 : Tryz.prog.cellsOf 71 = 1 := by kernel_rfl
  have h2 : DataW.trod enc Tryz.prog w 0 (fun _ => true) held m 71 [c2] = some x2 := by
    have h : DataW.trod enc Tryz.prog w 0 (fun _ => true) held m 71 (List.take (Tryz.prog.cellsOf 71) (List.drop 2 [c0, c1, c2])) = some x2 := hf 2 _ rfl
    rw [z71] at h
    exact h
  obtain ⟨v0, e0, _, w0⟩ := DataW.trod_int Tryz.underlying3 h0
  simp only [List.cons.injEq, and_true] at e0
  subst e0
  obtain ⟨v1, e1, _, w1⟩ := DataW.trod_int Tryz.underlying3 h1
  simp only [List.cons.injEq, and_true] at e1
  subst e1
  obtain ⟨v2, e2, _, w2⟩ := DataW.trod_int Tryz.underlying71 h2
  simp only [List.cons.injEq, and_true] at e2
  subst e2
  have hb2 := bounds_u32 w2
  obtain ⟨n2, rfl⟩ := Int.eq_ofNat_of_zero_le hb2.1
  exact ⟨⟨v0, v1, n2⟩, rfl, by show n2 < _; omega⟩
theorem obs {fuel : Nat} {cs : List Value} {x : DataW H × List MemPlace} (h : DataW.trod enc Tryz.prog w 0 (fun _ => true) held fuel 32 cs = some x) :
    ∃ (a : Option Addr) (c : Nat) (l : List UInt8), cs = [.slice a l.length c] ∧ l.length ≤ maxLen ∧ l.length ≤ c ∧ Old w [] a encB l ∧ ∀ y ∈ l, True :=
  open_row (e := encB) Tryz.underlying32 (by kernel_rfl) (each_u8 Tryz.underlying5) h
theorem oks {fuel : Nat} {cs : List Value} {x : DataW H × List MemPlace} (h : DataW.trod enc Tryz.prog w 0 (fun _ => true) held fuel 33 cs = some x) :
    ∃ (a : Option Addr) (c : Nat) (l : List Bool), cs = [.slice a l.length c] ∧ l.length ≤ maxLen ∧ l.length ≤ c ∧ Old w [] a encT l ∧ ∀ y ∈ l, True :=
  open_row (e := encT) Tryz.underlying33 (by kernel_rfl) (each_bool Tryz.underlying4) h
theorem ohs {fuel : Nat} {cs : List Value} {x : DataW H × List MemPlace} (h : DataW.trod enc Tryz.prog w 0 (fun _ => true) held fuel 34 cs = some x) :
    ∃ (a : Option Addr) (c : Nat) (l : List HX), cs = [.slice a l.length c] ∧ l.length ≤ maxLen ∧ l.length ≤ c ∧ Old w [] a encHX l ∧ ∀ y ∈ l, y.bits < 4294967296 :=
  open_row (e := encHX) Tryz.underlying34 (by kernel_rfl) (open_hurtx) h
theorem open_vop (n : Nat) (cs : List Value) (x : DataW H × List MemPlace) (h : DataW.trod enc Tryz.prog w 0 (fun _ => true) held n 36 cs = some x) : ∃ x : VX, cs = x.cells ∧ x.Good w := by
  obtain ⟨xs, m, _, rfl, hl, hlen, hf⟩ := DataW.trod_struct Tryz.underlying36 h
  have hc : Tryz.prog.cellsOf 36 = 6 := by kernel_rfl
  rw [hc] at hl
  obtain ⟨c0, c1, c2, c3, c4, c5, rfl⟩ := list6 hl
  obtain ⟨x0, x1, x2, x3, x4, x5, rfl⟩ := list6 (hlen.trans rfl)
  have z3 : Tryz.prog.cellsOf 3 = 1 := by kernel_rfl
  have h0 : DataW.trod enc Tryz.prog w 0 (fun _ => true) held m 3 [c0] = some x0 := by
    have h : DataW.trod enc Tryz.prog w 0 (fun _ => true) held m 3 (List.take (Tryz.prog.cellsOf 3) (List.drop 0 [c0, c1, c2, c3, c4, c5])) = some x0 := hf 0 _ rfl
    rw [z3] at h
    exact h
  have h1 : DataW.trod enc Tryz.prog w 0 (fun _ => true) held m 3 [c1] = some x1 := by
    have h : DataW.trod enc Tryz.prog w 0 (fun _ => true) held m 3 (List.take (Tryz.prog.cellsOf 3) (List.drop 1 [c0, c1, c2, c3, c4, c5])) = some x1 := hf 1 _ rfl
    rw [z3] at h
    exact h
  have z5 : Tryz.prog.cellsOf 5 = 1 := by kernel_rfl
  have h2 : DataW.trod enc Tryz.prog w 0 (fun _ => true) held m 5 [c2] = some x2 := by
    have h : DataW.trod enc Tryz.prog w 0 (fun _ => true) held m 5 (List.take (Tryz.prog.cellsOf 5) (List.drop 2 [c0, c1, c2, c3, c4, c5])) = some x2 := hf 2 _ rfl
    rw [z5] at h
    exact h
  have z32 : Tryz.prog.cellsOf 32 = 1 := by kernel_rfl
  have h3 : DataW.trod enc Tryz.prog w 0 (fun _ => true) held m 32 [c3] = some x3 := by
    have h : DataW.trod enc Tryz.prog w 0 (fun _ => true) held m 32 (List.take (Tryz.prog.cellsOf 32) (List.drop 3 [c0, c1, c2, c3, c4, c5])) = some x3 := hf 3 _ rfl
    rw [z32] at h
    exact h
  have z33 : Tryz.prog.cellsOf 33 = 1 := by kernel_rfl
  have h4 : DataW.trod enc Tryz.prog w 0 (fun _ => true) held m 33 [c4] = some x4 := by
    have h : DataW.trod enc Tryz.prog w 0 (fun _ => true) held m 33 (List.take (Tryz.prog.cellsOf 33) (List.drop 4 [c0, c1, c2, c3, c4, c5])) = some x4 := hf 4 _ rfl
    rw [z33] at h
    exact h
  have z34 : Tryz.prog.cellsOf 34 = 1 := by kernel_rfl
  have h5 : DataW.trod enc Tryz.prog w 0 (fun _ => true) held m 34 [c5] = some x5 := by
    have h : DataW.trod enc Tryz.prog w 0 (fun _ => true) held m 34 (List.take (Tryz.prog.cellsOf 34) (List.drop 5 [c0, c1, c2, c3, c4, c5])) = some x5 := hf 5 _ rfl
    rw [z34] at h
    exact h
  obtain ⟨v0, e0, _, w0⟩ := DataW.trod_int Tryz.underlying3 h0
  simp only [List.cons.injEq, and_true] at e0
  subst e0
  obtain ⟨v1, e1, _, w1⟩ := DataW.trod_int Tryz.underlying3 h1
  simp only [List.cons.injEq, and_true] at e1
  subst e1
  obtain ⟨v2, e2, _, w2⟩ := DataW.trod_int Tryz.underlying5 h2
  simp only [List.cons.injEq, and_true] at e2
  subst e2
  obtain ⟨a3, c3, l3, e3, hn3, hc3, ho3, hg3⟩ := obs h3
  simp only [List.cons.injEq, and_true] at e3
  obtain rfl := e3
  obtain ⟨a4, c4, l4, e4, hn4, hc4, ho4, hg4⟩ := oks h4
  simp only [List.cons.injEq, and_true] at e4
  obtain rfl := e4
  obtain ⟨a5, c5, l5, e5, hn5, hc5, ho5, hg5⟩ := ohs h5
  simp only [List.cons.injEq, and_true] at e5
  obtain rfl := e5
  exact ⟨⟨v0, v1, v2, a3, c3, l3, a4, c4, l4, a5, c5, l5⟩, rfl, ⟨ho3, ho4, ho5, hg5, hn3, hn4, hn5, bounds_i64 w1⟩⟩
theorem open_opx (n : Nat) (cs : List Value) (x : DataW H × List MemPlace) (h : DataW.trod enc Tryz.prog w 0 (fun _ => true) held n 38 cs = some x) : ∃ x : PX, cs = encPX.f x ∧ x.Good w := by
  obtain ⟨xs, m, _, rfl, hl, hlen, hf⟩ := DataW.trod_struct Tryz.underlying38 h
  have hc : Tryz.prog.cellsOf 38 = 10 := by kernel_rfl
  rw [hc] at hl
  obtain ⟨c0, c1, c2, c3, c4, c5, c6, c7, c8, c9, rfl⟩ := list10 hl
  obtain ⟨x0, x1, x2, rfl⟩ := list3 (hlen.trans rfl)
  have z3 : Tryz.prog.cellsOf 3 = 1 := by kernel_rfl
  have h0 : DataW.trod enc Tryz.prog w 0 (fun _ => true) held m 3 [c0] = some x0 := by
    have h : DataW.trod enc Tryz.prog w 0 (fun _ => true) held m 3 (List.take (Tryz.prog.cellsOf 3) (List.drop 0 [c0, c1, c2, c3, c4, c5, c6, c7, c8, c9])) = some x0 := hf 0 _ rfl
    rw [z3] at h
    exact h
  have z31 : Tryz.prog.cellsOf 31 = 3 := by kernel_rfl
  have h1 : DataW.trod enc Tryz.prog w 0 (fun _ => true) held m 31 [c1, c2, c3] = some x1 := by
    have h : DataW.trod enc Tryz.prog w 0 (fun _ => true) held m 31 (List.take (Tryz.prog.cellsOf 31) (List.drop 1 [c0, c1, c2, c3, c4, c5, c6, c7, c8, c9])) = some x1 := hf 1 _ rfl
    rw [z31] at h
    exact h
  have z36 : Tryz.prog.cellsOf 36 = 6 := by kernel_rfl
  have h2 : DataW.trod enc Tryz.prog w 0 (fun _ => true) held m 36 [c4, c5, c6, c7, c8, c9] = some x2 := by
    have h : DataW.trod enc Tryz.prog w 0 (fun _ => true) held m 36 (List.take (Tryz.prog.cellsOf 36) (List.drop 4 [c0, c1, c2, c3, c4, c5, c6, c7, c8, c9])) = some x2 := hf 2 _ rfl
    rw [z36] at h
    exact h
  obtain ⟨v0, e0, _, w0⟩ := DataW.trod_int Tryz.underlying3 h0
  simp only [List.cons.injEq, and_true] at e0
  subst e0
  obtain ⟨t, ta, tc, e1, hn, hc, ho⟩ := open_tab _ _ _ h1
  simp only [tabC, List.cons.injEq, and_true] at e1
  obtain ⟨rfl, rfl, rfl⟩ := e1
  obtain ⟨x, e2, hv⟩ := open_vop _ _ _ h2
  simp only [VX.cells, List.cons.injEq, and_true] at e2
  obtain ⟨rfl, rfl, rfl, rfl, rfl, rfl⟩ := e2
  exact ⟨⟨v0, t, ta, tc, x⟩, rfl, ⟨ho, hn, hv⟩⟩
end
theorem fo36_3 : K.fieldOff Tryz.prog 36 3 = some (32, 3, 1) := by kernel_rfl
theorem fo36_4 : K.fieldOff Tryz.prog 36 4 = some (33, 4, 1) := by kernel_rfl
theorem fo36_5 : K.fieldOff Tryz.prog 36 5 = some (34, 5, 1) := by kernel_rfl
theorem fo38_1 : K.fieldOff Tryz.prog 38 1 = some (31, 1, 3) := by kernel_rfl
theorem fo38_2 : K.fieldOff Tryz.prog 38 2 = some (36, 4, 6) := by kernel_rfl
theorem sl22 : K.slOf Tryz.prog 22 = some (38, 10) := by kernel_rfl
/- turntable/turntablelaw10.great -/
set_option maxHeartbeats 1000000 in
set_option maxRecDepth 100000 in
theorem great10_con {l : List PX} {a : Option Addr} {c : Nat} {w : World} (hl : l.length ≤ 9223372036854775807) (hb : ∀ q ∈ l, q.t.exts.length ≤ maxLen ∧ q.d.bs.length ≤ maxLen ∧ q.d.ks.length ≤ maxLen ∧ q.d.hs.length ≤ maxLen) [Old w [] a (encPX) (l)] :
    Calls Tryz.prog 5 #[.slice a l.length c] w fun e w' => ∃ b' : Bool, e = .returned (.bool b') ∧ Tr w [] w' [] := by
  refine K.enter0 (args := [_]) Tryz.func5 rfl Tryz.ntmps5 rfl ?_
  refine K.GC.seq ?_
  refine K.GC.region ?_
  refine K.GL.det (K.e_assign rfl) rfl ?_
  refine K.GL.nil ?_
  refine K.GQ.go ?_
  refine K.GC.seq ?_
  refine K.GC.region ?_
  refine K.GL.det (K.e_assign rfl) rfl ?_
  refine K.GL.nil ?_
  refine K.GQ.go ?_
  refine K.GC.seq ?_
  refine K.GC.seq ?_
  refine K.GC.region ?_
  refine K.GL.det (K.e_assign rfl) rfl ?_
  refine K.GL.nil ?_
  refine K.GQ.go ?_
  refine K.GC.block ?_
  refine K.GC.loopk (α := Nat × Int) [0, 2, 49, 50, 51, 52, 53, 54, 55] rfl (fun x => [(3, .int .i64 x.2), (4, .int .i64 (x.1 : Int))]) (fun x => []) (fun x => x.1 ≤ l.length) (fun x => (l.length - x.1)) (0, 0) (Nat.zero_le _) (by first | ((repeat refine ⟨rfl, ?_⟩); exact trivial) | (simp only [List.take_zero, List.map_nil, List.flatMap_nil, List.append_nil]; (repeat refine ⟨rfl, ?_⟩); exact trivial)) (by first | exact K.sb | (dsimp only; exact K.sb) | (simp only [List.take_zero, List.map_nil, List.flatMap_nil, List.append_nil]; exact K.sb) | exact K.Sub.refl _) (fun x hI => ?_)
  obtain ⟨y, n⟩ := x
  simp only at hI ⊢
  refine K.GC.seq ?_
  refine K.GC.seq ?_
  refine K.GC.region ?_
  refine K.GL.det (K.e_move rfl) rfl ?_
  refine K.GL.det (K.e_move rfl) rfl ?_
  refine K.GL.det (K.e_len Tryz.underlying22 rfl) rfl ?_
  first | refine K.GL.det ((K.e_lt rfl rfl).yes (by first | omega | assumption | decide +kernel)) rfl ?_ | refine K.GL.det ((K.e_lt rfl rfl).no (by first | omega | assumption | decide +kernel)) rfl ?_ | refine K.GL.det (K.e_lt rfl rfl) rfl ?_
  refine K.GL.det (K.e_move rfl) rfl ?_
  first | refine K.GL.splitB 9 rfl (fun h1 => ?_) (fun h1 => ?_) | skip
  all_goals first | exact absurd h1 (by decide) | replace h1 := of_decide_eq_true h1 | replace h1 := of_decide_eq_false h1 | skip
  all_goals
    first | (refine K.GL.want 9 rfl rfl rfl ?_; first | refine K.GL.det (K.e_move rfl) rfl ?_) | refine K.GL.skip 9 rfl rfl rfl rfl ?_ | refine K.GL.skipU 9 rfl rfl rfl rfl ?_
    first | (refine K.GL.want 9 rfl rfl rfl ?_; first | refine K.GL.det ((K.e_lt rfl rfl).yes (by first | omega | assumption | decide +kernel)) rfl ?_ | refine K.GL.det ((K.e_lt rfl rfl).no (by first | omega | assumption | decide +kernel)) rfl ?_ | refine K.GL.det (K.e_lt rfl rfl) rfl ?_) | refine K.GL.skip 9 rfl rfl rfl rfl ?_ | refine K.GL.skipU 9 rfl rfl rfl rfl ?_
    first | refine K.GL.det (K.e_pick_t rfl rfl) rfl ?_ | refine K.GL.det (K.e_pick_f rfl rfl) rfl ?_
    refine K.GL.nil ?_
    refine K.GQ.go ?_
    refine K.GC.condB rfl (fun h2 => ?_) (fun h2 => ?_)
    · first
      | exact absurd h2 (by decide)
      | try replace h2 := of_decide_eq_true h2
        refine K.GC.skip ?_
        refine K.GQ.go ?_
        refine K.GC.seq ?_
        refine K.GC.block ?_
        obtain ⟨q, hq⟩ : ∃ q, l[y]? = some q := get_ex (by omega)
        obtain ⟨hb1, hb2, hb3, hb4⟩ := hb q (List.mem_of_getElem? hq)
        unfold maxLen at hb1 hb2 hb3 hb4
        refine K.D.GC.drawn0 34 [[], [], [], [1, 2], [1, 2, 3], [1, 2, 3, 4], [1, 2, 3, 4, 5], [1, 2, 3, 4, 5, 6], [], [], [8, 9], [8, 9, 10], [8, 9, 10, 11], [8, 9, 10, 11, 12], [8, 9, 10, 11, 12, 13], [1, 2, 3, 4, 5, 6, 7, 8, 9, 10, 11, 12, 13, 14], [], [], [16, 17], [16, 17, 18], [16, 17, 18, 19], [16, 17, 18, 19, 20], [16, 17, 18, 19, 20, 21], [1, 2, 3, 4, 5, 6, 7, 8, 9, 10, 11, 12, 13, 14, 15, 16, 17, 18, 19, 20, 21, 22], [], [], [24, 25], [24, 25, 26], [24, 25, 26, 27], [24, 25, 26, 27, 28], [24, 25, 26, 27, 28, 29], [1, 2, 3, 4, 5, 6, 7, 8, 9, 10, 11, 12, 13, 14, 15, 16, 17, 18, 19, 20, 21, 22, 23, 24, 25, 26, 27, 28, 29, 30], [1, 2, 3, 4, 5, 6, 7, 8, 9, 10, 11, 12, 13, 14, 15, 16, 17, 18, 19, 20, 21, 22, 23, 24, 25, 26, 27, 28, 29, 30, 31], [0, 1, 2, 3, 4, 5, 6, 7, 8, 9, 10, 11, 12, 13, 14, 15, 16, 17, 18, 19, 20, 21, 22, 23, 24, 25, 26, 27, 28, 29, 30, 31, 32], [0, 1, 2, 3, 4, 5, 6, 7, 8, 9, 10, 11, 12, 13, 14, 15, 16, 17, 18, 19, 20, 21, 22, 23, 24, 25, 26, 27, 28, 29, 30, 31, 32, 33]] [[], [], [], [1, 2], [3], [4], [5], [6], [], [], [8, 9], [10], [11], [12], [13], [7, 14], [], [], [16, 17], [18], [19], [20], [21], [15, 22], [], [], [24, 25], [26], [27], [28], [29], [23, 30], [31], [0, 32]] [[], [], [], [], [], [], [], [], [], [], [], [], [], [], [], [], [], [], [], [], [], [], [], [], [], [], [], [], [], [], [], [], [], []] [[], [], [], [], [], [], [], [], [], [], [], [], [], [], [], [], [], [], [], [], [], [], [], [], [], [], [], [], [], [], [], [], [], []] [] [0, 2, 3, 4, 5, 6, 7, 8, 9, 10, 11, 12, 13, 14, 49, 50, 51, 52, 53, 54, 55] (by kernel_rfl) (by kernel_rfl) (by kernel_rfl) rfl ?_
        refine K.D.DW.det (b := []) (u := []) rfl rfl rfl (fun vs hf => K.e_move rfl) ?_
        refine K.D.DW.det (b := []) (u := []) rfl rfl rfl (fun vs hf => K.e_move rfl) ?_
        refine K.D.DW.det (b := []) (u := []) rfl rfl rfl (fun vs hf => K.e_move rfl) ?_
        first | refine K.D.DW.det (b := [1, 2]) (u := []) rfl rfl rfl (fun vs hf => K.e_ixN sl22 rfl rfl rfl rfl (by omega)) ?_ | refine K.D.DW.det (b := [1, 2]) (u := []) rfl rfl rfl (fun vs hf => K.e_ix sl22 rfl rfl rfl rfl (by omega) (by omega)) ?_ | refine K.D.DW.det (b := [1, 2]) (u := []) rfl rfl rfl (fun vs hf => K.e_indexAddrS sl22 rfl rfl (by assumption) (by omega) (by omega)) ?_ | refine K.D.DW.det (b := [1, 2]) (u := []) rfl rfl rfl (fun vs hf => K.e_indexAddr sl22 rfl rfl (by omega) (by omega)) ?_
        first | refine K.D.DW.det (b := [3]) (u := []) rfl rfl rfl (fun vs hf => K.e_fa fo38_1 rfl) ?_ | refine K.D.DW.det (b := [3]) (u := []) rfl rfl rfl (fun vs hf => K.e_fieldAddr fo38_1 rfl) ?_
        first | refine K.D.DW.det (b := [4]) (u := []) rfl rfl rfl (fun vs hf => K.e_fa fo31_2 rfl) ?_ | refine K.D.DW.det (b := [4]) (u := []) rfl rfl rfl (fun vs hf => K.e_fieldAddr fo31_2 rfl) ?_
        refine K.D.DW.det (b := [5]) (u := []) rfl rfl rfl (fun vs hf => K.e_ldF (l := l) (e := encPX) (o := 3) Tryz.isAgg29 rfl rfl hq rfl) ?_
        refine K.D.DW.det (b := [6]) (u := []) rfl rfl rfl (fun vs hf => K.e_len Tryz.underlying29 rfl) ?_
        refine K.D.DW.det (b := []) (u := []) rfl rfl rfl (fun vs hf => K.e_move rfl) ?_
        refine K.D.DW.det (b := []) (u := []) rfl rfl rfl (fun vs hf => K.e_move rfl) ?_
        first | refine K.D.DW.det (b := [8, 9]) (u := []) rfl rfl rfl (fun vs hf => K.e_ixN sl22 rfl rfl rfl rfl (by omega)) ?_ | refine K.D.DW.det (b := [8, 9]) (u := []) rfl rfl rfl (fun vs hf => K.e_ix sl22 rfl rfl rfl rfl (by omega) (by omega)) ?_ | refine K.D.DW.det (b := [8, 9]) (u := []) rfl rfl rfl (fun vs hf => K.e_indexAddrS sl22 rfl rfl (by assumption) (by omega) (by omega)) ?_ | refine K.D.DW.det (b := [8, 9]) (u := []) rfl rfl rfl (fun vs hf => K.e_indexAddr sl22 rfl rfl (by omega) (by omega)) ?_
        first | refine K.D.DW.det (b := [10]) (u := []) rfl rfl rfl (fun vs hf => K.e_fa fo38_2 rfl) ?_ | refine K.D.DW.det (b := [10]) (u := []) rfl rfl rfl (fun vs hf => K.e_fieldAddr fo38_2 rfl) ?_
        first | refine K.D.DW.det (b := [11]) (u := []) rfl rfl rfl (fun vs hf => K.e_fa fo36_3 rfl) ?_ | refine K.D.DW.det (b := [11]) (u := []) rfl rfl rfl (fun vs hf => K.e_fieldAddr fo36_3 rfl) ?_
        refine K.D.DW.det (b := [12]) (u := []) rfl rfl rfl (fun vs hf => K.e_ldF (l := l) (e := encPX) (o := 7) Tryz.isAgg32 rfl rfl hq rfl) ?_
        refine K.D.DW.det (b := [13]) (u := []) rfl rfl rfl (fun vs hf => K.e_len Tryz.underlying32 rfl) ?_
        refine K.D.DW.det (b := [7, 14]) (u := []) rfl rfl rfl (fun vs hf => (K.e_addw rfl rfl)) ?_
        refine K.D.DW.det (b := []) (u := []) rfl rfl rfl (fun vs hf => K.e_move rfl) ?_
        refine K.D.DW.det (b := []) (u := []) rfl rfl rfl (fun vs hf => K.e_move rfl) ?_
        first | refine K.D.DW.det (b := [16, 17]) (u := []) rfl rfl rfl (fun vs hf => K.e_ixN sl22 rfl rfl rfl rfl (by omega)) ?_ | refine K.D.DW.det (b := [16, 17]) (u := []) rfl rfl rfl (fun vs hf => K.e_ix sl22 rfl rfl rfl rfl (by omega) (by omega)) ?_ | refine K.D.DW.det (b := [16, 17]) (u := []) rfl rfl rfl (fun vs hf => K.e_indexAddrS sl22 rfl rfl (by assumption) (by omega) (by omega)) ?_ | refine K.D.DW.det (b := [16, 17]) (u := []) rfl rfl rfl (fun vs hf => K.e_indexAddr sl22 rfl rfl (by omega) (by omega)) ?_
        first | refine K.D.DW.det (b := [18]) (u := []) rfl rfl rfl (fun vs hf => K.e_fa fo38_2 rfl) ?_ | refine K.D.DW.det (b := [18]) (u := []) rfl rfl rfl (fun vs hf => K.e_fieldAddr fo38_2 rfl) ?_
        first | refine K.D.DW.det (b := [19]) (u := []) rfl rfl rfl (fun vs hf => K.e_fa fo36_4 rfl) ?_ | refine K.D.DW.det (b := [19]) (u := []) rfl rfl rfl (fun vs hf => K.e_fieldAddr fo36_4 rfl) ?_
        refine K.D.DW.det (b := [20]) (u := []) rfl rfl rfl (fun vs hf => K.e_ldF (l := l) (e := encPX) (o := 8) Tryz.isAgg33 rfl rfl hq rfl) ?_
        refine K.D.DW.det (b := [21]) (u := []) rfl rfl rfl (fun vs hf => K.e_len Tryz.underlying33 rfl) ?_
        refine K.D.DW.det (b := [15, 22]) (u := []) rfl rfl rfl (fun vs hf => (K.e_addw rfl rfl)) ?_
        refine K.D.DW.det (b := []) (u := []) rfl rfl rfl (fun vs hf => K.e_move rfl) ?_
        refine K.D.DW.det (b := []) (u := []) rfl rfl rfl (fun vs hf => K.e_move rfl) ?_
        first | refine K.D.DW.det (b := [24, 25]) (u := []) rfl rfl rfl (fun vs hf => K.e_ixN sl22 rfl rfl rfl rfl (by omega)) ?_ | refine K.D.DW.det (b := [24, 25]) (u := []) rfl rfl rfl (fun vs hf => K.e_ix sl22 rfl rfl rfl rfl (by omega) (by omega)) ?_ | refine K.D.DW.det (b := [24, 25]) (u := []) rfl rfl rfl (fun vs hf => K.e_indexAddrS sl22 rfl rfl (by assumption) (by omega) (by omega)) ?_ | refine K.D.DW.det (b := [24, 25]) (u := []) rfl rfl rfl (fun vs hf => K.e_indexAddr sl22 rfl rfl (by omega) (by omega)) ?_
        first | refine K.D.DW.det (b := [26]) (u := []) rfl rfl rfl (fun vs hf => K.e_fa fo38_2 rfl) ?_ | refine K.D.DW.det (b := [26]) (u := []) rfl rfl rfl (fun vs hf => K.e_fieldAddr fo38_2 rfl) ?_
        first | refine K.D.DW.det (b := [27]) (u := []) rfl rfl rfl (fun vs hf => K.e_fa fo36_5 rfl) ?_ | refine K.D.DW.det (b := [27]) (u := []) rfl rfl rfl (fun vs hf => K.e_fieldAddr fo36_5 rfl) ?_
        refine K.D.DW.det (b := [28]) (u := []) rfl rfl rfl (fun vs hf => K.e_ldF (l := l) (e := encPX) (o := 9) Tryz.isAgg34 rfl rfl hq rfl) ?_
        refine K.D.DW.det (b := [29]) (u := []) rfl rfl rfl (fun vs hf => K.e_len Tryz.underlying34 rfl) ?_
        refine K.D.DW.det (b := [23, 30]) (u := []) rfl rfl rfl (fun vs hf => (K.e_addw rfl rfl)) ?_
        refine K.D.DW.det (b := [31]) (u := []) rfl rfl rfl (fun vs hf => K.e_min rfl rfl) ?_
        refine K.D.DW.det (b := [0, 32]) (u := []) rfl rfl rfl (fun vs hf => (K.e_addw rfl rfl)) ?_
        refine K.D.DW.fin (fun vs hf => ?_)
        refine K.GL.keep [0, 2, 3, 4, 5, 6, 7, 8, 9, 10, 11, 12, 13, 14, 15, 16, 17, 18, 19, 20, 21, 22, 23, 24, 25, 26, 27, 28, 29, 30, 31, 32, 33, 34, 35, 36, 37, 38, 39, 40, 41, 42, 43, 44, 45, 46, 47, 48, 49, 50, 51, 52, 53, 54, 55] rfl ?_
        refine K.D.GL.res0 rfl ?_
        clear hf
        try clear vs
        refine K.GL.det (K.e_assign rfl) rfl ?_
        refine K.GL.nil ?_
        refine K.GQ.block_normal ?_
        refine K.GQ.go ?_
        refine K.GC.region ?_
        refine K.GL.det (K.e_move rfl) rfl ?_
        first | refine K.GL.det (K.e_add rfl rfl ⟨by omega, by omega⟩) rfl ?_ | refine K.GL.det (K.e_addw rfl rfl) rfl ?_
        refine K.GL.det (K.e_assign rfl) rfl ?_
        refine K.GL.nil ?_
        exact K.GQ.round (y + 1, IntKind.i64.wrap (n + min (IntKind.i64.wrap (IntKind.i64.wrap (IntKind.i64.wrap ((q.t.exts.length : Int) + (q.d.bs.length : Int)) + (q.d.ks.length : Int)) + (q.d.hs.length : Int))) 9000)) (by simp only; omega) (by simp only; omega) (by (repeat refine ⟨rfl, ?_⟩); exact trivial) (K.Sub.refl _)
    · first
      | exact absurd h2 (by decide)
      | try replace h2 := of_decide_eq_false h2
        refine K.GC.exit ?_
        refine K.GQ.then_exit ?_
        refine K.GQ.then_exit ?_
        refine K.GQ.block_hit ?_
        refine K.GQ.go ?_
        refine K.GC.seq ?_
        refine K.GC.region ?_
        refine K.GL.det (K.e_move rfl) rfl ?_
        first | refine K.GL.det ((K.e_ge rfl rfl).yes (by first | omega | assumption | decide +kernel)) rfl ?_ | refine K.GL.det ((K.e_ge rfl rfl).no (by first | omega | assumption | decide +kernel)) rfl ?_ | refine K.GL.det (K.e_ge rfl rfl) rfl ?_
        refine K.GL.det (K.e_move rfl) rfl ?_
        first | refine K.GL.splitB 51 rfl (fun h3 => ?_) (fun h3 => ?_) | skip
        all_goals first | exact absurd h3 (by decide) | replace h3 := of_decide_eq_true h3 | replace h3 := of_decide_eq_false h3 | skip
        all_goals
          first | (refine K.GL.want 51 rfl rfl rfl ?_; first | refine K.GL.det (K.e_move rfl) rfl ?_) | refine K.GL.skip 51 rfl rfl rfl rfl ?_ | refine K.GL.skipU 51 rfl rfl rfl rfl ?_
          first | (refine K.GL.want 51 rfl rfl rfl ?_; first | refine K.GL.det (K.e_len Tryz.underlying22 rfl) rfl ?_) | refine K.GL.skip 51 rfl rfl rfl rfl ?_ | refine K.GL.skipU 51 rfl rfl rfl rfl ?_
          first | (refine K.GL.want 51 rfl rfl rfl ?_; first | refine K.GL.det ((K.e_gt rfl rfl).yes (by first | omega | assumption | decide +kernel)) rfl ?_ | refine K.GL.det ((K.e_gt rfl rfl).no (by first | omega | assumption | decide +kernel)) rfl ?_ | refine K.GL.det (K.e_gt rfl rfl) rfl ?_) | refine K.GL.skip 51 rfl rfl rfl rfl ?_ | refine K.GL.skipU 51 rfl rfl rfl rfl ?_
          first | refine K.GL.det (K.e_pick_t rfl rfl) rfl ?_ | refine K.GL.det (K.e_pick_f rfl rfl) rfl ?_
          refine K.GL.det (K.e_assign rfl) rfl ?_
          refine K.GL.nil ?_
          refine K.GQ.go ?_
          refine K.GC.ret ?_
          refine K.GQ.ret1 Tryz.results5 rfl (fun w hT => ?_)
          exact ⟨_, rfl, hT.nil⟩
section
variable {ops : Array Oper} {Q : Exit → Act → World → Prop} {N : Nat} {U : Env} {w0 : World} {L0 L F : List Res} {ty : TypeId} {rest : List Oper} {pos : String} {after : Array Edge} {xs : List Operand} {tys : Array TypeId} {dT : Tmp}
theorem gl_great10_con {l : List PX} {a : Option Addr} {c : Nat} (hf : ∀ args w, (callFunc 5 args).run Tryz.prog w = .ok (.enter 5 args) w) (hx : opvs U xs = some [.slice a l.length c]) (hl : l.length ≤ 9223372036854775807) (hb : ∀ q ∈ l, q.t.exts.length ≤ maxLen ∧ q.d.bs.length ≤ maxLen ∧ q.d.ks.length ≤ maxLen ∧ q.d.hs.length ≤ maxLen) [o0 : RdC w0 L0 [] L a (encPX) (l)] (hd : Nat.ble (dT + 1) N = true)
    (hr : ∀ (b' : Bool), GL Tryz.prog ops Q rest N ((dT, .bool b') :: U) w0 L0 (L)) : GL Tryz.prog ops Q (⟨some dT, .call ⟨.value (.func 5), xs.toArray, tys⟩, ty, pos, after, Option.none⟩ :: rest) N U w0 L0 L :=
  GL.callM (α := (Bool)) (l := []) (Pv := fun y v => v = .bool y) (l' := fun y => []) hf hx (Sub.refl _)
    (fun w hT => by
      have _o0 := o0.out w hT; exact (great10_con hl hb).mono fun e w' ⟨b', h1, h2⟩ => ⟨(b'), _, h1, rfl, h2⟩) hd fun y v hv => by subst hv; exact hr y 
end
theorem fo36_0 : K.fieldOff Tryz.prog 36 0 = some (3, 0, 1) := by kernel_rfl
theorem fo36_1 : K.fieldOff Tryz.prog 36 1 = some (3, 1, 1) := by kernel_rfl
theorem fo38_0 : K.fieldOff Tryz.prog 38 0 = some (3, 0, 1) := by kernel_rfl
/- turntable/turntablelaw10.SuperPlays -/
set_option maxHeartbeats 16000000 in
set_option maxRecDepth 100000 in
theorem plays_con {n m : Int} {l : List PX} {a : Option Addr} {c : Nat} {w : World} (hl : l.length ≤ 9223372036854775807) (hq0 : ∀ q ∈ l, q.Good w) [Old w [wildR] a (encPX) (l)] (hd : Disj [wildR]) (ho : ∀ r ∈ ([wildR] : List Res), r.ok w.heap) :
    Calls Tryz.prog 3 #[.int .i64 n, .slice a l.length c, .int .i64 m] w fun e w' => e = .returned (.bool true) ∧ Tr w [wildR] w' [wildR] := by
  refine K.enter (args := [_, _, _]) Tryz.func3 rfl Tryz.ntmps3 rfl hd ho ?_
  refine K.GC.seq ?_
  refine K.GC.region ?_
  refine K.GL.det (K.e_assign rfl) rfl ?_
  refine K.GL.nil ?_
  refine K.GQ.go ?_
  refine K.GC.seq ?_
  refine K.GC.region ?_
  refine K.GL.det (ev_head10_con Tryz.call4 rfl ) rfl ?_
  refine K.GL.det (K.e_assign rfl) rfl ?_
  refine K.GL.nil ?_
  refine K.GQ.go ?_
  refine K.GC.seq ?_
  refine K.GC.seq ?_
  refine K.GC.region ?_
  refine K.GL.det (K.e_move rfl) rfl ?_
  first | refine K.GL.det ((K.e_gt rfl rfl).yes (by first | omega | assumption | decide +kernel)) rfl ?_ | refine K.GL.det ((K.e_gt rfl rfl).no (by first | omega | assumption | decide +kernel)) rfl ?_ | refine K.GL.det (K.e_gt rfl rfl) rfl ?_
  refine K.GL.det (K.e_move rfl) rfl ?_
  first | refine K.GL.splitB 22 rfl (fun h1 => ?_) (fun h1 => ?_) | skip
  all_goals first | exact absurd h1 (by decide) | replace h1 := of_decide_eq_true h1 | replace h1 := of_decide_eq_false h1 | skip
  all_goals
    first
      | refine K.GL.skip 22 rfl rfl rfl rfl ?_
      | refine K.GL.skipU 22 rfl rfl rfl rfl ?_
      | refine K.GL.skip0 22 rfl rfl rfl ?_
      | (refine K.GL.want 22 rfl rfl rfl ?_
         refine K.GL.det (K.e_move rfl) rfl ?_)
    first
      | refine K.GL.skip 22 rfl rfl rfl rfl ?_
      | refine K.GL.skipU 22 rfl rfl rfl rfl ?_
      | refine K.GL.skip0 22 rfl rfl rfl ?_
      | (refine K.GL.want 22 rfl rfl rfl ?_
         refine gl_great10_con Tryz.call5 rfl (by first | assumption | omega | rfl | decide) (fun q hq => ⟨(hq0 q hq).lt, (hq0 q hq).v.lb, (hq0 q hq).v.lk, (hq0 q hq).v.lh⟩) rfl (fun b24 => ?_))
    first | refine K.GL.det (K.e_pick_t rfl rfl) rfl ?_ | refine K.GL.det (K.e_pick_f rfl rfl) rfl ?_
    refine K.GL.nil ?_
    refine K.GQ.go ?_
    refine K.GC.condB rfl (fun h2 => ?_) (fun h2 => ?_)
    · first
      | exact absurd h2 (by decide)
      | try replace h2 := of_decide_eq_true h2
        refine K.GC.seq ?_
        refine K.GC.region ?_
        refine K.GL.det (K.e_move rfl) rfl ?_
        refine K.GL.det (K.e_assign rfl) rfl ?_
        refine K.GL.nil ?_
        refine K.GQ.go ?_
        refine K.GC.ret ?_
        refine K.GQ.then_ret ?_
        refine K.GQ.ret1 Tryz.results3 rfl (fun w hT => ?_)
        exact ⟨rfl, hT.sub K.sb⟩
    · first
      | exact absurd h2 (by decide)
      | try replace h2 := of_decide_eq_false h2
        refine K.GC.skip ?_
        refine K.GQ.go ?_
        refine K.GC.seq ?_
        rcases (by omega : (1 ≤ n ∧ n ≤ 4096) ∨ ¬ (1 ≤ n ∧ n ≤ 4096)) with hn | hn
        all_goals
          refine K.GC.region ?_
          refine K.GL.det (K.e_move rfl) rfl ?_
          first
            | refine gl_dnew_con (n := n) Tryz.call6 rfl hn rfl (fun d28 g28 hk28 hv28 => ?_)
            | refine K.GL.det (ev_dnew0_con (n := n) Tryz.call6 rfl hn) rfl ?_
          refine K.GL.det (K.e_assign rfl) rfl ?_
          refine K.GL.nil ?_
          refine K.GQ.go ?_
          refine K.GC.seq ?_
          refine K.GC.region ?_
          refine K.GL.det (K.e_move rfl) rfl ?_
          first
            | refine gl_rdnew_con (n := n) Tryz.call7 rfl hn rfl (fun r30 g30 hk30 hv30 => ?_)
            | refine K.GL.det (ev_rdnew0_con (n := n) Tryz.call7 rfl hn) rfl ?_
          refine K.GL.det (K.e_assign rfl) rfl ?_
          refine K.GL.nil ?_
          refine K.GQ.go ?_
          refine K.GC.seq ?_
          refine K.GC.seq ?_
          refine K.GC.region ?_
          refine K.GL.det (K.e_move rfl) rfl ?_
          first | refine K.GL.det ((K.e_eqlp Tryz.underlying25 rfl rfl).cast_bool (b := false) rfl) rfl ?_ | refine K.GL.det ((K.e_eqlp Tryz.underlying25 rfl rfl).cast_bool (b := true) rfl) rfl ?_
          refine K.GL.det (K.e_move rfl) rfl ?_
          first | refine K.GL.splitB 33 rfl (fun h3 => ?_) (fun h3 => ?_) | skip
          all_goals first | exact absurd h3 (by decide) | replace h3 := of_decide_eq_true h3 | replace h3 := of_decide_eq_false h3 | skip
          all_goals
            first | (refine K.GL.want 33 rfl rfl rfl ?_; first | refine K.GL.det (K.e_move rfl) rfl ?_) | refine K.GL.skip 33 rfl rfl rfl rfl ?_ | refine K.GL.skipU 33 rfl rfl rfl rfl ?_
            first | (refine K.GL.want 33 rfl rfl rfl ?_; first | refine K.GL.det ((K.e_eqlp Tryz.underlying27 rfl rfl).cast_bool (b := false) rfl) rfl ?_ | refine K.GL.det ((K.e_eqlp Tryz.underlying27 rfl rfl).cast_bool (b := true) rfl) rfl ?_) | refine K.GL.skip 33 rfl rfl rfl rfl ?_ | refine K.GL.skipU 33 rfl rfl rfl rfl ?_
            first | refine K.GL.det (K.e_pick_t rfl rfl) rfl ?_ | refine K.GL.det (K.e_pick_f rfl rfl) rfl ?_
            refine K.GL.nil ?_
            refine K.GQ.go ?_
            refine K.GC.condB rfl (fun h4 => ?_) (fun h4 => ?_)
            · first
              | exact absurd h4 (by decide)
              | try replace h4 := of_decide_eq_true h4
                refine K.GC.seq ?_
                refine K.GC.region ?_
                refine K.GL.det (K.e_move rfl) rfl ?_
                refine K.GL.det (K.e_move rfl) rfl ?_
                first | refine K.GL.splitB 38 rfl (fun h5 => ?_) (fun h5 => ?_) | skip
                all_goals first | exact absurd h5 (by decide) | replace h5 := of_decide_eq_true h5 | replace h5 := of_decide_eq_false h5 | skip
                all_goals
                  first | (refine K.GL.want 38 rfl rfl rfl ?_; first | refine K.GL.det (K.e_move rfl) rfl ?_) | refine K.GL.skip 38 rfl rfl rfl rfl ?_ | refine K.GL.skipU 38 rfl rfl rfl rfl ?_
                  first | (refine K.GL.want 38 rfl rfl rfl ?_; first | refine K.GL.det ((K.e_eqlp Tryz.underlying25 rfl rfl).cast_bool (b := false) rfl) rfl ?_ | refine K.GL.det ((K.e_eqlp Tryz.underlying25 rfl rfl).cast_bool (b := true) rfl) rfl ?_) | refine K.GL.skip 38 rfl rfl rfl rfl ?_ | refine K.GL.skipU 38 rfl rfl rfl rfl ?_
                  first | (refine K.GL.want 38 rfl rfl rfl ?_; first | refine K.GL.det (K.e_move rfl) rfl ?_) | refine K.GL.skip 38 rfl rfl rfl rfl ?_ | refine K.GL.skipU 38 rfl rfl rfl rfl ?_
                  first | (refine K.GL.want 38 rfl rfl rfl ?_; first | refine K.GL.det ((K.e_eqlp Tryz.underlying27 rfl rfl).cast_bool (b := false) rfl) rfl ?_ | refine K.GL.det ((K.e_eqlp Tryz.underlying27 rfl rfl).cast_bool (b := true) rfl) rfl ?_) | refine K.GL.skip 38 rfl rfl rfl rfl ?_ | refine K.GL.skipU 38 rfl rfl rfl rfl ?_
                  first | (refine K.GL.want 38 rfl rfl rfl ?_; first | refine K.GL.det ((K.e_eqb Tryz.underlying4 rfl rfl).cast_bool (b := true) rfl) rfl ?_) | refine K.GL.skip 38 rfl rfl rfl rfl ?_ | refine K.GL.skipU 38 rfl rfl rfl rfl ?_
                  first | refine K.GL.det (K.e_pick_t rfl rfl) rfl ?_ | refine K.GL.det (K.e_pick_f rfl rfl) rfl ?_
                  refine K.GL.det (K.e_assign rfl) rfl ?_
                  refine K.GL.nil ?_
                  refine K.GQ.go ?_
                  refine K.GC.ret ?_
                  refine K.GQ.then_ret ?_
                  refine K.GQ.ret1 Tryz.results3 rfl (fun w hT => ?_)
                  exact ⟨rfl, hT.sub K.sb⟩
            · first
              | exact absurd h4 (by decide)
              | try replace h4 := of_decide_eq_false h4
                refine K.GC.skip ?_
                refine K.GQ.go ?_
                refine K.GC.seq ?_
                refine K.GC.seq ?_
                refine K.GC.region ?_
                refine K.GL.det (K.e_assign rfl) rfl ?_
                refine K.GL.nil ?_
                refine K.GQ.go ?_
                refine K.GC.block ?_
                refine K.GC.loopk (α := Nat × DG × RG) [1, 2, 7, 8, 9, 158, 159, 160, 161, 162, 163, 164, 165] rfl (fun z => [(10, .int .i64 (z.1 : Int))]) (fun z => [DevR d28 z.2.1, RefR r30 z.2.2, wildR]) (fun z => z.1 ≤ l.length ∧ z.2.1.Ok ∧ z.2.2.Ok ∧ z.2.2.s = z.2.1.v) (fun z => (l.length - z.1)) (0, g28, g30) ⟨Nat.zero_le _, hk28, hk30, hv30.trans hv28.symm⟩ (by first | ((repeat refine ⟨rfl, ?_⟩); exact trivial) | (simp only [List.take_zero, List.map_nil, List.flatMap_nil, List.append_nil]; (repeat refine ⟨rfl, ?_⟩); exact trivial)) (by first | exact K.sb | (dsimp only; exact K.sb) | (simp only [List.take_zero, List.map_nil, List.flatMap_nil, List.append_nil]; exact K.sb) | exact K.Sub.refl _) (fun z hI => ?_)
                have hI1 := hI.1
                refine K.GC.seq ?_
                refine K.GC.seq ?_
                refine K.GC.region ?_
                refine K.GL.det (K.e_move rfl) rfl ?_
                refine K.GL.det (K.e_move rfl) rfl ?_
                refine K.GL.det (K.e_len Tryz.underlying22 rfl) rfl ?_
                first | refine K.GL.det ((K.e_lt rfl rfl).yes (by first | omega | assumption | decide +kernel)) rfl ?_ | refine K.GL.det ((K.e_lt rfl rfl).no (by first | omega | assumption | decide +kernel)) rfl ?_ | refine K.GL.det (K.e_lt rfl rfl) rfl ?_
                refine K.GL.nil ?_
                refine K.GQ.go ?_
                refine K.GC.condB rfl (fun h6 => ?_) (fun h6 => ?_)
                · first
                  | exact absurd h6 (by decide)
                  | try replace h6 := of_decide_eq_true h6
                    refine K.GC.skip ?_
                    refine K.GQ.go ?_
                    refine K.GC.seq ?_
                    refine K.GC.block ?_
                    refine K.GC.seq ?_
                    refine K.GC.region ?_
                    refine K.GL.det (K.e_move rfl) rfl ?_
                    refine K.GL.det (K.e_move rfl) rfl ?_
                    first | refine K.GL.ixK sl22 rfl rfl rfl rfl (by assumption) rfl ?_ | refine K.GL.ix sl22 rfl rfl rfl rfl (by omega) rfl (fun q53 hq53 => ?_) | refine K.GL.ixI sl22 rfl rfl rfl rfl (by omega) (by omega) rfl (fun q53 hq53 => ?_) | refine K.GL.det (K.e_indexAddrS sl22 rfl rfl (by assumption) (by omega) (by omega)) rfl ?_ | refine K.GL.det (K.e_indexAddr sl22 rfl rfl (by omega) (by omega)) rfl ?_
                    refine K.GL.det (K.e_ldA (l := l) (e := encPX) Tryz.isAgg38 Tryz.sizeOf38 rfl rfl hq53) rfl ?_
                    refine K.GL.alloc Tryz.zeroValue38 rfl rfl (fun b11 => ?_)
                    refine K.GL.storeP (vs := q53.cells) (cs' := q53.cells) rfl rfl rfl Tryz.sizeOf38 rfl rfl (by exact spliceO_all rfl) ?_
                    refine K.GL.nil ?_
                    refine K.GQ.go ?_
                    refine K.GC.seq ?_
                    refine K.GC.seq ?_
                    have hgd := hq0 q53 (List.mem_of_getElem? hq53)
                    have hlt : q53.t.exts.length ≤ 9223372036854775807 := by have h := hgd.lt; unfold maxLen at h; omega
                    have hlh : q53.d.hs.length ≤ 9223372036854775807 := by have h := hgd.v.lh; unfold maxLen at h; omega
                    have hO1 := hgd.ot
                    have hO2 := hgd.v.ob
                    have hO3 := hgd.v.ok
                    have hO4 := hgd.v.oh
                    refine K.GC.region ?_
                    first | refine K.GL.det (K.e_fa fo38_0 rfl) rfl ?_ | refine K.GL.det (K.e_fieldAddr fo38_0 rfl) rfl ?_
                    first | refine K.GL.det (K.e_ldE Tryz.isAgg3 rfl rfl (by assumption) rfl) rfl ?_ | refine K.GL.det (K.e_ldF Tryz.isAgg3 rfl rfl (by assumption) rfl) rfl ?_ | refine K.GL.det (K.e_load Tryz.isAgg3 rfl rfl) rfl ?_ | refine K.GL.det (K.e_load0 Tryz.isAgg3 rfl (by assumption)) rfl ?_
                    first | refine K.GL.det ((K.e_lt rfl rfl).yes (by first | omega | assumption | decide +kernel)) rfl ?_ | refine K.GL.det ((K.e_lt rfl rfl).no (by first | omega | assumption | decide +kernel)) rfl ?_ | refine K.GL.det (K.e_lt rfl rfl) rfl ?_
                    refine K.GL.nil ?_
                    refine K.GQ.go ?_
                    refine K.GC.condB rfl (fun h7 => ?_) (fun h7 => ?_)
                    · first
                      | exact absurd h7 (by decide)
                      | try replace h7 := of_decide_eq_true h7
                        refine K.GC.seq ?_
                        refine K.GC.region ?_
                        refine K.GL.det (K.e_move rfl) rfl ?_
                        first | refine K.GL.det (K.e_fa fo38_1 rfl) rfl ?_ | refine K.GL.det (K.e_fieldAddr fo38_1 rfl) rfl ?_
                        first | refine K.GL.det (K.e_ldA Tryz.isAgg31 Tryz.sizeOf31 rfl rfl (by assumption)) rfl ?_ | refine K.GL.det (K.e_ldAF Tryz.isAgg31 Tryz.sizeOf31 rfl rfl (by assumption) rfl) rfl ?_ | refine K.GL.det (K.e_loads Tryz.isAgg31 Tryz.sizeOf31 rfl rfl) rfl ?_
                        refine gl_save_con (g := z.2.1) (s := z.2.1.v) (t := q53.t) (a := q53.ta) (c := q53.tc) Tryz.call8 rfl hI.2.1 rfl hlt rfl (fun gd hkd hvd => ?_)
                        refine K.GL.det (K.e_assign rfl) rfl ?_
                        refine K.GL.nil ?_
                        refine K.GQ.go ?_
                        refine K.GC.seq ?_
                        refine K.GC.region ?_
                        refine K.GL.det (K.e_move rfl) rfl ?_
                        refine K.GL.det (K.e_move rfl) rfl ?_
                        first | refine K.GL.det (K.e_fa fo38_1 rfl) rfl ?_ | refine K.GL.det (K.e_fieldAddr fo38_1 rfl) rfl ?_
                        first | refine K.GL.det (K.e_ldA Tryz.isAgg31 Tryz.sizeOf31 rfl rfl (by assumption)) rfl ?_ | refine K.GL.det (K.e_ldAF Tryz.isAgg31 Tryz.sizeOf31 rfl rfl (by assumption) rfl) rfl ?_ | refine K.GL.det (K.e_loads Tryz.isAgg31 Tryz.sizeOf31 rfl rfl) rfl ?_
                        refine gl_rsave_con (g := z.2.2) (s := z.2.1.v) (t := q53.t) (a := q53.ta) (c := q53.tc) Tryz.call9 rfl hI.2.2.1 hI.2.2.2 hlt rfl (fun gr hkr hvr => ?_)
                        refine K.GL.det ((K.e_ne rfl rfl).no (not_not_intro rfl)) rfl ?_
                        refine K.GL.nil ?_
                        refine K.GQ.go ?_
                        refine K.GC.condB rfl (fun h8 => ?_) (fun h8 => ?_)
                        · first
                          | exact absurd h8 (by decide)
                          | try replace h8 := of_decide_eq_true h8
                            refine K.GC.seq ?_
                            refine K.GC.region ?_
                            refine K.GL.det (K.e_assign rfl) rfl ?_
                            refine K.GL.nil ?_
                            refine K.GQ.go ?_
                            refine K.GC.ret ?_
                            refine K.GQ.then_ret ?_
                            refine K.GQ.block_ret ?_
                            refine K.GQ.then_ret ?_
                            refine K.GQ.then_ret ?_
                            refine K.GQ.block_ret ?_
                            refine K.GQ.then_ret ?_
                            refine K.GQ.ret1 Tryz.results3 rfl (fun w hT => ?_)
                            exact ⟨rfl, hT.sub K.sb⟩
                        · first
                          | exact absurd h8 (by decide)
                          | try replace h8 := of_decide_eq_false h8
                            refine K.GC.skip ?_
                            refine K.GQ.go ?_
                            refine K.GC.seq ?_
                            have hs2 : gr.s = gd.v := hvr.trans hvd.symm
                            have hll := load_len gd.v
                            have hli : gd.v.list.length ≤ 4096 := by
                              have h1 := List.length_filter_le (fun i => (gd.v.loose i).isSome) (List.range gd.v.kept.length)
                              rw [List.length_range] at h1
                              have h2 : gd.v.kept.length = gd.kept.length := rfl
                              have h3 := hkd.n2
                              have h4 : gd.v.list.length ≤ gd.v.kept.length := h1
                              omega
                            refine K.GC.region ?_
                            refine K.GL.det (K.e_move rfl) rfl ?_
                            refine gl_load_con (g := gd) (s := gd.v) Tryz.call16 rfl hkd rfl rfl (fun a119 c119 => ?_)
                            refine K.GL.det (K.e_move rfl) rfl ?_
                            refine K.GL.det (K.e_extract rfl rfl) rfl ?_
                            refine K.GL.det (K.e_extract rfl rfl) rfl ?_
                            refine K.GL.det (K.e_extract rfl rfl) rfl ?_
                            refine K.GL.alloc Tryz.zeroValue31 rfl rfl (fun b13 => ?_)
                            refine K.GL.storeP (vs := tabC gd.v.load.1 a119 c119) (cs' := tabC gd.v.load.1 a119 c119) rfl rfl rfl Tryz.sizeOf31 rfl rfl (by exact spliceO_all rfl) ?_
                            refine K.GL.det (K.e_assign rfl) rfl ?_
                            refine K.GL.det (K.e_assign rfl) rfl ?_
                            refine K.GL.nil ?_
                            refine K.GQ.go ?_
                            refine K.GC.seq ?_
                            refine K.GC.region ?_
                            refine K.GL.det (K.e_move rfl) rfl ?_
                            refine gl_rload_con (g := gr) (s := gd.v) Tryz.call17 rfl hkr hs2 rfl (fun a125 c125 => ?_)
                            refine K.GL.det (K.e_move rfl) rfl ?_
                            refine K.GL.det (K.e_extract rfl rfl) rfl ?_
                            refine K.GL.det (K.e_extract rfl rfl) rfl ?_
                            refine K.GL.det (K.e_extract rfl rfl) rfl ?_
                            refine K.GL.alloc Tryz.zeroValue31 rfl rfl (fun b16 => ?_)
                            refine K.GL.storeP (vs := tabC gd.v.load.1 a125 c125) (cs' := tabC gd.v.load.1 a125 c125) rfl rfl rfl Tryz.sizeOf31 rfl rfl (by exact spliceO_all rfl) ?_
                            refine K.GL.det (K.e_assign rfl) rfl ?_
                            refine K.GL.det (K.e_assign rfl) rfl ?_
                            refine K.GL.nil ?_
                            refine K.GQ.go ?_
                            refine K.GC.seq ?_
                            refine K.GC.region ?_
                            first | refine K.GL.det (K.e_ldA Tryz.isAgg31 Tryz.sizeOf31 rfl rfl (by assumption)) rfl ?_ | refine K.GL.det (K.e_ldAF Tryz.isAgg31 Tryz.sizeOf31 rfl rfl (by assumption) rfl) rfl ?_ | refine K.GL.det (K.e_loads Tryz.isAgg31 Tryz.sizeOf31 rfl rfl) rfl ?_
                            first | refine K.GL.det (K.e_ldA Tryz.isAgg31 Tryz.sizeOf31 rfl rfl (by assumption)) rfl ?_ | refine K.GL.det (K.e_ldAF Tryz.isAgg31 Tryz.sizeOf31 rfl rfl (by assumption) rfl) rfl ?_ | refine K.GL.det (K.e_loads Tryz.isAgg31 Tryz.sizeOf31 rfl rfl) rfl ?_
                            refine K.GL.det ((ev_rsame_con (t := gd.v.load.1) (u := gd.v.load.1) Tryz.call18 rfl (by first | assumption | exact getT_len _ | (simp; done) | decide) (by first | assumption | exact getT_len _ | (simp; done) | decide)).cast_bool (b := true) (decide_eq_true rfl)) rfl ?_
                            first | refine K.GL.det (K.e_notp rfl) rfl ?_ | refine K.GL.det (K.e_not rfl) rfl ?_
                            refine K.GL.det (K.e_move rfl) rfl ?_
                            first | refine K.GL.splitB 133 rfl (fun h9 => ?_) (fun h9 => ?_) | skip
                            all_goals first | exact absurd h9 (by decide) | replace h9 := of_decide_eq_true h9 | replace h9 := of_decide_eq_false h9 | skip
                            all_goals
                              first
                                | refine K.GL.skip 133 rfl rfl rfl rfl ?_
                                | refine K.GL.skipU 133 rfl rfl rfl rfl ?_
                                | refine K.GL.skip0 133 rfl rfl rfl ?_
                                | (refine K.GL.want 133 rfl rfl rfl ?_
                                   refine K.GL.det (K.e_move rfl) rfl ?_)
                              first
                                | refine K.GL.skip 133 rfl rfl rfl rfl ?_
                                | refine K.GL.skipU 133 rfl rfl rfl rfl ?_
                                | refine K.GL.skip0 133 rfl rfl rfl ?_
                                | (refine K.GL.want 133 rfl rfl rfl ?_
                                   refine K.GL.det (K.e_move rfl) rfl ?_)
                              first
                                | refine K.GL.skip 133 rfl rfl rfl rfl ?_
                                | refine K.GL.skipU 133 rfl rfl rfl rfl ?_
                                | refine K.GL.skip0 133 rfl rfl rfl ?_
                                | (refine K.GL.want 133 rfl rfl rfl ?_
                                   refine K.GL.det ((K.e_neb Tryz.underlying4 rfl rfl).cast_bool (b := false) (by simp)) rfl ?_)
                              first | refine K.GL.det (K.e_pick_t rfl rfl) rfl ?_ | refine K.GL.det (K.e_pick_f rfl rfl) rfl ?_
                              refine K.GL.det (K.e_move rfl) rfl ?_
                              first | refine K.GL.splitB 138 rfl (fun h10 => ?_) (fun h10 => ?_) | skip
                              all_goals first | exact absurd h10 (by decide) | replace h10 := of_decide_eq_true h10 | replace h10 := of_decide_eq_false h10 | skip
                              all_goals
                                first
                                  | refine K.GL.skip 138 rfl rfl rfl rfl ?_
                                  | refine K.GL.skipU 138 rfl rfl rfl rfl ?_
                                  | refine K.GL.skip0 138 rfl rfl rfl ?_
                                  | (refine K.GL.want 138 rfl rfl rfl ?_
                                     refine K.GL.det (K.e_move rfl) rfl ?_)
                                first
                                  | refine K.GL.skip 138 rfl rfl rfl rfl ?_
                                  | refine K.GL.skipU 138 rfl rfl rfl rfl ?_
                                  | refine K.GL.skip0 138 rfl rfl rfl ?_
                                  | (refine K.GL.want 138 rfl rfl rfl ?_
                                     refine K.GL.det (K.e_move rfl) rfl ?_)
                                first
                                  | refine K.GL.skip 138 rfl rfl rfl rfl ?_
                                  | refine K.GL.skipU 138 rfl rfl rfl rfl ?_
                                  | refine K.GL.skip0 138 rfl rfl rfl ?_
                                  | (refine K.GL.want 138 rfl rfl rfl ?_
                                     refine K.GL.det ((K.e_ne rfl rfl).no (not_not_intro rfl)) rfl ?_)
                                first | refine K.GL.det (K.e_pick_t rfl rfl) rfl ?_ | refine K.GL.det (K.e_pick_f rfl rfl) rfl ?_
                                refine K.GL.det (K.e_move rfl) rfl ?_
                                first | refine K.GL.splitB 143 rfl (fun h11 => ?_) (fun h11 => ?_) | skip
                                all_goals first | exact absurd h11 (by decide) | replace h11 := of_decide_eq_true h11 | replace h11 := of_decide_eq_false h11 | skip
                                all_goals
                                  first
                                    | refine K.GL.skip 143 rfl rfl rfl rfl ?_
                                    | refine K.GL.skipU 143 rfl rfl rfl rfl ?_
                                    | refine K.GL.skip0 143 rfl rfl rfl ?_
                                    | (refine K.GL.want 143 rfl rfl rfl ?_
                                       refine K.GL.det (K.e_move rfl) rfl ?_)
                                  first
                                    | refine K.GL.skip 143 rfl rfl rfl rfl ?_
                                    | refine K.GL.skipU 143 rfl rfl rfl rfl ?_
                                    | refine K.GL.skip0 143 rfl rfl rfl ?_
                                    | (refine K.GL.want 143 rfl rfl rfl ?_
                                       refine gl_ddone_con (gd := gd) (s := gd.v) Tryz.call19 rfl rfl rfl (?_))
                                  first
                                    | refine K.GL.skip 143 rfl rfl rfl rfl ?_
                                    | refine K.GL.skipU 143 rfl rfl rfl rfl ?_
                                    | refine K.GL.skip0 143 rfl rfl rfl ?_
                                    | (refine K.GL.want 143 rfl rfl rfl ?_
                                       refine K.GL.det (K.e_move rfl) rfl ?_)
                                  first
                                    | refine K.GL.skip 143 rfl rfl rfl rfl ?_
                                    | refine K.GL.skipU 143 rfl rfl rfl rfl ?_
                                    | refine K.GL.skip0 143 rfl rfl rfl ?_
                                    | (refine K.GL.want 143 rfl rfl rfl ?_
                                       refine K.GL.det (ev_rddone_con (g := gr) (s := gd.v) Tryz.call20 rfl hs2) rfl ?_)
                                  first
                                    | refine K.GL.skip 143 rfl rfl rfl rfl ?_
                                    | refine K.GL.skipU 143 rfl rfl rfl rfl ?_
                                    | refine K.GL.skip0 143 rfl rfl rfl ?_
                                    | (refine K.GL.want 143 rfl rfl rfl ?_
                                       refine K.GL.det ((K.e_ne rfl rfl).no (not_not_intro rfl)) rfl ?_)
                                  first | refine K.GL.det (K.e_pick_t rfl rfl) rfl ?_ | refine K.GL.det (K.e_pick_f rfl rfl) rfl ?_
                                  refine K.GL.det (K.e_move rfl) rfl ?_
                                  first | refine K.GL.splitB 150 rfl (fun h12 => ?_) (fun h12 => ?_) | skip
                                  all_goals first | exact absurd h12 (by decide) | replace h12 := of_decide_eq_true h12 | replace h12 := of_decide_eq_false h12 | skip
                                  all_goals
                                    first
                                      | refine K.GL.skip 150 rfl rfl rfl rfl ?_
                                      | refine K.GL.skipU 150 rfl rfl rfl rfl ?_
                                      | refine K.GL.skip0 150 rfl rfl rfl ?_
                                      | (refine K.GL.want 150 rfl rfl rfl ?_
                                         refine K.GL.det (K.e_move rfl) rfl ?_)
                                    first
                                      | refine K.GL.skip 150 rfl rfl rfl rfl ?_
                                      | refine K.GL.skipU 150 rfl rfl rfl rfl ?_
                                      | refine K.GL.skip0 150 rfl rfl rfl ?_
                                      | (refine K.GL.want 150 rfl rfl rfl ?_
                                         refine gl_dloose_con (g := gd) (s := gd.v) Tryz.call22 rfl hkd rfl rfl (fun a152 c152 => ?_))
                                    first
                                      | refine K.GL.skip 150 rfl rfl rfl rfl ?_
                                      | refine K.GL.skipU 150 rfl rfl rfl rfl ?_
                                      | refine K.GL.skip0 150 rfl rfl rfl ?_
                                      | (refine K.GL.want 150 rfl rfl rfl ?_
                                         refine K.GL.det (K.e_move rfl) rfl ?_)
                                    first
                                      | refine K.GL.skip 150 rfl rfl rfl rfl ?_
                                      | refine K.GL.skipU 150 rfl rfl rfl rfl ?_
                                      | refine K.GL.skip0 150 rfl rfl rfl ?_
                                      | (refine K.GL.want 150 rfl rfl rfl ?_
                                         refine gl_rdloose_con (g := gr) (s := gd.v) Tryz.call23 rfl hkr hs2 rfl (fun a154 c154 => ?_))
                                    first
                                      | refine K.GL.skip 150 rfl rfl rfl rfl ?_
                                      | refine K.GL.skipU 150 rfl rfl rfl rfl ?_
                                      | refine K.GL.skip0 150 rfl rfl rfl ?_
                                      | (refine K.GL.want 150 rfl rfl rfl ?_
                                         refine K.GL.det ((ev_sint_con (l := intl gd.v.list) (m := intl gd.v.list) Tryz.call21 rfl (by rw [intl_length]; omega) (by rw [intl_length]; omega)).cast_bool (b := true) (decide_eq_true rfl)) rfl ?_)
                                    first
                                      | refine K.GL.skip 150 rfl rfl rfl rfl ?_
                                      | refine K.GL.skipU 150 rfl rfl rfl rfl ?_
                                      | refine K.GL.skip0 150 rfl rfl rfl ?_
                                      | (refine K.GL.want 150 rfl rfl rfl ?_
                                         first | refine K.GL.det (K.e_notp rfl) rfl ?_ | refine K.GL.det (K.e_not rfl) rfl ?_)
                                    first | refine K.GL.det (K.e_pick_t rfl rfl) rfl ?_ | refine K.GL.det (K.e_pick_f rfl rfl) rfl ?_
                                    refine K.GL.nil ?_
                                    refine K.GQ.go ?_
                                    refine K.GC.condB rfl (fun h13 => ?_) (fun h13 => ?_)
                                    · first
                                      | exact absurd h13 (by decide)
                                      | try replace h13 := of_decide_eq_true h13
                                        refine K.GC.seq ?_
                                        refine K.GC.region ?_
                                        refine K.GL.det (K.e_assign rfl) rfl ?_
                                        refine K.GL.nil ?_
                                        refine K.GQ.go ?_
                                        refine K.GC.ret ?_
                                        refine K.GQ.block_ret ?_
                                        refine K.GQ.then_ret ?_
                                        refine K.GQ.then_ret ?_
                                        refine K.GQ.block_ret ?_
                                        refine K.GQ.then_ret ?_
                                        refine K.GQ.ret1 Tryz.results3 rfl (fun w hT => ?_)
                                        exact ⟨rfl, hT.sub K.sb⟩
                                    · first
                                      | exact absurd h13 (by decide)
                                      | try replace h13 := of_decide_eq_false h13
                                        refine K.GC.skip ?_
                                        refine K.GQ.block_normal ?_
                                        refine K.GQ.go ?_
                                        refine K.GC.region ?_
                                        refine K.GL.det (K.e_move rfl) rfl ?_
                                        first | refine K.GL.det (K.e_add rfl rfl ⟨by omega, by omega⟩) rfl ?_ | refine K.GL.det (K.e_addw rfl rfl) rfl ?_
                                        refine K.GL.det (K.e_assign rfl) rfl ?_
                                        refine K.GL.nil ?_
                                        exact K.GQ.round ((z.1 + 1, gd, gr) : Nat × DG × RG) ⟨by show z.1 + 1 ≤ _; omega, hkd, hkr, hs2⟩ (by simp only; omega) (by (repeat refine ⟨rfl, ?_⟩); exact trivial) (by first | exact K.sb | (dsimp only; exact K.sb))
                    · first
                      | exact absurd h7 (by decide)
                      | try replace h7 := of_decide_eq_false h7
                        refine K.GC.seq ?_
                        refine K.GC.region ?_
                        first | refine K.GL.det (K.e_fa fo38_2 rfl) rfl ?_ | refine K.GL.det (K.e_fieldAddr fo38_2 rfl) rfl ?_
                        first | refine K.GL.det (K.e_fa fo36_0 rfl) rfl ?_ | refine K.GL.det (K.e_fieldAddr fo36_0 rfl) rfl ?_
                        first | refine K.GL.det (K.e_ldE Tryz.isAgg3 rfl rfl (by assumption) rfl) rfl ?_ | refine K.GL.det (K.e_ldF Tryz.isAgg3 rfl rfl (by assumption) rfl) rfl ?_ | refine K.GL.det (K.e_load Tryz.isAgg3 rfl rfl) rfl ?_ | refine K.GL.det (K.e_load0 Tryz.isAgg3 rfl (by assumption)) rfl ?_
                        refine K.GL.nil ?_
                        refine K.GQ.go ?_
                        refine K.GC.block ?_
                        refine K.GC.seq ?_
                        refine K.GC.region ?_
                        first | refine K.GL.det ((K.e_eq rfl rfl).yes (by first | omega | assumption | decide +kernel)) rfl ?_ | refine K.GL.det ((K.e_eq rfl rfl).no (by first | omega | assumption | decide +kernel)) rfl ?_ | refine K.GL.det (K.e_eq rfl rfl) rfl ?_
                        refine K.GL.det (K.e_assign rfl) rfl ?_
                        refine K.GL.nil ?_
                        refine K.GQ.go ?_
                        refine K.GC.condB rfl (fun h14 => ?_) (fun h14 => ?_)
                        · first
                          | exact absurd h14 (by decide)
                          | try replace h14 := of_decide_eq_true h14
                            refine K.GC.seq ?_
                            refine K.GC.region ?_
                            refine K.GL.det (K.e_move rfl) rfl ?_
                            first | refine K.GL.det (K.e_fa fo38_2 rfl) rfl ?_ | refine K.GL.det (K.e_fieldAddr fo38_2 rfl) rfl ?_
                            first | refine K.GL.det (K.e_fa fo36_1 rfl) rfl ?_ | refine K.GL.det (K.e_fieldAddr fo36_1 rfl) rfl ?_
                            first | refine K.GL.det (K.e_ldE Tryz.isAgg3 rfl rfl (by assumption) rfl) rfl ?_ | refine K.GL.det (K.e_ldF Tryz.isAgg3 rfl rfl (by assumption) rfl) rfl ?_ | refine K.GL.det (K.e_load Tryz.isAgg3 rfl rfl) rfl ?_ | refine K.GL.det (K.e_load0 Tryz.isAgg3 rfl (by assumption)) rfl ?_
                            refine gl_dcut_con (g := z.2.1) (s := z.2.1.v) (i := q53.d.at_) Tryz.call10 rfl hI.2.1 rfl hgd.v.at1 rfl (fun gd hkd hvd => ?_)
                            refine K.GL.nil ?_
                            refine K.GQ.go ?_
                            refine K.GC.region ?_
                            refine K.GL.det (K.e_move rfl) rfl ?_
                            first | refine K.GL.det (K.e_fa fo38_2 rfl) rfl ?_ | refine K.GL.det (K.e_fieldAddr fo38_2 rfl) rfl ?_
                            first | refine K.GL.det (K.e_fa fo36_1 rfl) rfl ?_ | refine K.GL.det (K.e_fieldAddr fo36_1 rfl) rfl ?_
                            first | refine K.GL.det (K.e_ldE Tryz.isAgg3 rfl rfl (by assumption) rfl) rfl ?_ | refine K.GL.det (K.e_ldF Tryz.isAgg3 rfl rfl (by assumption) rfl) rfl ?_ | refine K.GL.det (K.e_load Tryz.isAgg3 rfl rfl) rfl ?_ | refine K.GL.det (K.e_load0 Tryz.isAgg3 rfl (by assumption)) rfl ?_
                            refine gl_rdcut_con (g := z.2.2) (s := z.2.1.v) (i := q53.d.at_) Tryz.call11 rfl hI.2.2.1 hI.2.2.2 hgd.v.at1 rfl (fun vr gr hkr hvr => ?_)
                            refine K.GL.nil ?_
                            refine K.GQ.block_normal ?_
                            refine K.GQ.go ?_
                            refine K.GC.seq ?_
                            have hs2 : gr.s = gd.v := hvr.trans hvd.symm
                            have hll := load_len gd.v
                            have hli : gd.v.list.length ≤ 4096 := by
                              have h1 := List.length_filter_le (fun i => (gd.v.loose i).isSome) (List.range gd.v.kept.length)
                              rw [List.length_range] at h1
                              have h2 : gd.v.kept.length = gd.kept.length := rfl
                              have h3 := hkd.n2
                              have h4 : gd.v.list.length ≤ gd.v.kept.length := h1
                              omega
                            refine K.GC.region ?_
                            refine K.GL.det (K.e_move rfl) rfl ?_
                            refine gl_load_con (g := gd) (s := gd.v) Tryz.call16 rfl hkd rfl rfl (fun a119 c119 => ?_)
                            refine K.GL.det (K.e_move rfl) rfl ?_
                            refine K.GL.det (K.e_extract rfl rfl) rfl ?_
                            refine K.GL.det (K.e_extract rfl rfl) rfl ?_
                            refine K.GL.det (K.e_extract rfl rfl) rfl ?_
                            refine K.GL.alloc Tryz.zeroValue31 rfl rfl (fun b13 => ?_)
                            refine K.GL.storeP (vs := tabC gd.v.load.1 a119 c119) (cs' := tabC gd.v.load.1 a119 c119) rfl rfl rfl Tryz.sizeOf31 rfl rfl (by exact spliceO_all rfl) ?_
                            refine K.GL.det (K.e_assign rfl) rfl ?_
                            refine K.GL.det (K.e_assign rfl) rfl ?_
                            refine K.GL.nil ?_
                            refine K.GQ.go ?_
                            refine K.GC.seq ?_
                            refine K.GC.region ?_
                            refine K.GL.det (K.e_move rfl) rfl ?_
                            refine gl_rload_con (g := gr) (s := gd.v) Tryz.call17 rfl hkr hs2 rfl (fun a125 c125 => ?_)
                            refine K.GL.det (K.e_move rfl) rfl ?_
                            refine K.GL.det (K.e_extract rfl rfl) rfl ?_
                            refine K.GL.det (K.e_extract rfl rfl) rfl ?_
                            refine K.GL.det (K.e_extract rfl rfl) rfl ?_
                            refine K.GL.alloc Tryz.zeroValue31 rfl rfl (fun b16 => ?_)
                            refine K.GL.storeP (vs := tabC gd.v.load.1 a125 c125) (cs' := tabC gd.v.load.1 a125 c125) rfl rfl rfl Tryz.sizeOf31 rfl rfl (by exact spliceO_all rfl) ?_
                            refine K.GL.det (K.e_assign rfl) rfl ?_
                            refine K.GL.det (K.e_assign rfl) rfl ?_
                            refine K.GL.nil ?_
                            refine K.GQ.go ?_
                            refine K.GC.seq ?_
                            refine K.GC.region ?_
                            first | refine K.GL.det (K.e_ldA Tryz.isAgg31 Tryz.sizeOf31 rfl rfl (by assumption)) rfl ?_ | refine K.GL.det (K.e_ldAF Tryz.isAgg31 Tryz.sizeOf31 rfl rfl (by assumption) rfl) rfl ?_ | refine K.GL.det (K.e_loads Tryz.isAgg31 Tryz.sizeOf31 rfl rfl) rfl ?_
                            first | refine K.GL.det (K.e_ldA Tryz.isAgg31 Tryz.sizeOf31 rfl rfl (by assumption)) rfl ?_ | refine K.GL.det (K.e_ldAF Tryz.isAgg31 Tryz.sizeOf31 rfl rfl (by assumption) rfl) rfl ?_ | refine K.GL.det (K.e_loads Tryz.isAgg31 Tryz.sizeOf31 rfl rfl) rfl ?_
                            refine K.GL.det ((ev_rsame_con (t := gd.v.load.1) (u := gd.v.load.1) Tryz.call18 rfl (by first | assumption | exact getT_len _ | (simp; done) | decide) (by first | assumption | exact getT_len _ | (simp; done) | decide)).cast_bool (b := true) (decide_eq_true rfl)) rfl ?_
                            first | refine K.GL.det (K.e_notp rfl) rfl ?_ | refine K.GL.det (K.e_not rfl) rfl ?_
                            refine K.GL.det (K.e_move rfl) rfl ?_
                            first | refine K.GL.splitB 133 rfl (fun h15 => ?_) (fun h15 => ?_) | skip
                            all_goals first | exact absurd h15 (by decide) | replace h15 := of_decide_eq_true h15 | replace h15 := of_decide_eq_false h15 | skip
                            all_goals
                              first
                                | refine K.GL.skip 133 rfl rfl rfl rfl ?_
                                | refine K.GL.skipU 133 rfl rfl rfl rfl ?_
                                | refine K.GL.skip0 133 rfl rfl rfl ?_
                                | (refine K.GL.want 133 rfl rfl rfl ?_
                                   refine K.GL.det (K.e_move rfl) rfl ?_)
                              first
                                | refine K.GL.skip 133 rfl rfl rfl rfl ?_
                                | refine K.GL.skipU 133 rfl rfl rfl rfl ?_
                                | refine K.GL.skip0 133 rfl rfl rfl ?_
                                | (refine K.GL.want 133 rfl rfl rfl ?_
                                   refine K.GL.det (K.e_move rfl) rfl ?_)
                              first
                                | refine K.GL.skip 133 rfl rfl rfl rfl ?_
                                | refine K.GL.skipU 133 rfl rfl rfl rfl ?_
                                | refine K.GL.skip0 133 rfl rfl rfl ?_
                                | (refine K.GL.want 133 rfl rfl rfl ?_
                                   refine K.GL.det ((K.e_neb Tryz.underlying4 rfl rfl).cast_bool (b := false) (by simp)) rfl ?_)
                              first | refine K.GL.det (K.e_pick_t rfl rfl) rfl ?_ | refine K.GL.det (K.e_pick_f rfl rfl) rfl ?_
                              refine K.GL.det (K.e_move rfl) rfl ?_
                              first | refine K.GL.splitB 138 rfl (fun h16 => ?_) (fun h16 => ?_) | skip
                              all_goals first | exact absurd h16 (by decide) | replace h16 := of_decide_eq_true h16 | replace h16 := of_decide_eq_false h16 | skip
                              all_goals
                                first
                                  | refine K.GL.skip 138 rfl rfl rfl rfl ?_
                                  | refine K.GL.skipU 138 rfl rfl rfl rfl ?_
                                  | refine K.GL.skip0 138 rfl rfl rfl ?_
                                  | (refine K.GL.want 138 rfl rfl rfl ?_
                                     refine K.GL.det (K.e_move rfl) rfl ?_)
                                first
                                  | refine K.GL.skip 138 rfl rfl rfl rfl ?_
                                  | refine K.GL.skipU 138 rfl rfl rfl rfl ?_
                                  | refine K.GL.skip0 138 rfl rfl rfl ?_
                                  | (refine K.GL.want 138 rfl rfl rfl ?_
                                     refine K.GL.det (K.e_move rfl) rfl ?_)
                                first
                                  | refine K.GL.skip 138 rfl rfl rfl rfl ?_
                                  | refine K.GL.skipU 138 rfl rfl rfl rfl ?_
                                  | refine K.GL.skip0 138 rfl rfl rfl ?_
                                  | (refine K.GL.want 138 rfl rfl rfl ?_
                                     refine K.GL.det ((K.e_ne rfl rfl).no (not_not_intro rfl)) rfl ?_)
                                first | refine K.GL.det (K.e_pick_t rfl rfl) rfl ?_ | refine K.GL.det (K.e_pick_f rfl rfl) rfl ?_
                                refine K.GL.det (K.e_move rfl) rfl ?_
                                first | refine K.GL.splitB 143 rfl (fun h17 => ?_) (fun h17 => ?_) | skip
                                all_goals first | exact absurd h17 (by decide) | replace h17 := of_decide_eq_true h17 | replace h17 := of_decide_eq_false h17 | skip
                                all_goals
                                  first
                                    | refine K.GL.skip 143 rfl rfl rfl rfl ?_
                                    | refine K.GL.skipU 143 rfl rfl rfl rfl ?_
                                    | refine K.GL.skip0 143 rfl rfl rfl ?_
                                    | (refine K.GL.want 143 rfl rfl rfl ?_
                                       refine K.GL.det (K.e_move rfl) rfl ?_)
                                  first
                                    | refine K.GL.skip 143 rfl rfl rfl rfl ?_
                                    | refine K.GL.skipU 143 rfl rfl rfl rfl ?_
                                    | refine K.GL.skip0 143 rfl rfl rfl ?_
                                    | (refine K.GL.want 143 rfl rfl rfl ?_
                                       refine gl_ddone_con (gd := gd) (s := gd.v) Tryz.call19 rfl rfl rfl (?_))
                                  first
                                    | refine K.GL.skip 143 rfl rfl rfl rfl ?_
                                    | refine K.GL.skipU 143 rfl rfl rfl rfl ?_
                                    | refine K.GL.skip0 143 rfl rfl rfl ?_
                                    | (refine K.GL.want 143 rfl rfl rfl ?_
                                       refine K.GL.det (K.e_move rfl) rfl ?_)
                                  first
                                    | refine K.GL.skip 143 rfl rfl rfl rfl ?_
                                    | refine K.GL.skipU 143 rfl rfl rfl rfl ?_
                                    | refine K.GL.skip0 143 rfl rfl rfl ?_
                                    | (refine K.GL.want 143 rfl rfl rfl ?_
                                       refine K.GL.det (ev_rddone_con (g := gr) (s := gd.v) Tryz.call20 rfl hs2) rfl ?_)
                                  first
                                    | refine K.GL.skip 143 rfl rfl rfl rfl ?_
                                    | refine K.GL.skipU 143 rfl rfl rfl rfl ?_
                                    | refine K.GL.skip0 143 rfl rfl rfl ?_
                                    | (refine K.GL.want 143 rfl rfl rfl ?_
                                       refine K.GL.det ((K.e_ne rfl rfl).no (not_not_intro rfl)) rfl ?_)
                                  first | refine K.GL.det (K.e_pick_t rfl rfl) rfl ?_ | refine K.GL.det (K.e_pick_f rfl rfl) rfl ?_
                                  refine K.GL.det (K.e_move rfl) rfl ?_
                                  first | refine K.GL.splitB 150 rfl (fun h18 => ?_) (fun h18 => ?_) | skip
                                  all_goals first | exact absurd h18 (by decide) | replace h18 := of_decide_eq_true h18 | replace h18 := of_decide_eq_false h18 | skip
                                  all_goals
                                    first
                                      | refine K.GL.skip 150 rfl rfl rfl rfl ?_
                                      | refine K.GL.skipU 150 rfl rfl rfl rfl ?_
                                      | refine K.GL.skip0 150 rfl rfl rfl ?_
                                      | (refine K.GL.want 150 rfl rfl rfl ?_
                                         refine K.GL.det (K.e_move rfl) rfl ?_)
                                    first
                                      | refine K.GL.skip 150 rfl rfl rfl rfl ?_
                                      | refine K.GL.skipU 150 rfl rfl rfl rfl ?_
                                      | refine K.GL.skip0 150 rfl rfl rfl ?_
                                      | (refine K.GL.want 150 rfl rfl rfl ?_
                                         refine gl_dloose_con (g := gd) (s := gd.v) Tryz.call22 rfl hkd rfl rfl (fun a152 c152 => ?_))
                                    first
                                      | refine K.GL.skip 150 rfl rfl rfl rfl ?_
                                      | refine K.GL.skipU 150 rfl rfl rfl rfl ?_
                                      | refine K.GL.skip0 150 rfl rfl rfl ?_
                                      | (refine K.GL.want 150 rfl rfl rfl ?_
                                         refine K.GL.det (K.e_move rfl) rfl ?_)
                                    first
                                      | refine K.GL.skip 150 rfl rfl rfl rfl ?_
                                      | refine K.GL.skipU 150 rfl rfl rfl rfl ?_
                                      | refine K.GL.skip0 150 rfl rfl rfl ?_
                                      | (refine K.GL.want 150 rfl rfl rfl ?_
                                         refine gl_rdloose_con (g := gr) (s := gd.v) Tryz.call23 rfl hkr hs2 rfl (fun a154 c154 => ?_))
                                    first
                                      | refine K.GL.skip 150 rfl rfl rfl rfl ?_
                                      | refine K.GL.skipU 150 rfl rfl rfl rfl ?_
                                      | refine K.GL.skip0 150 rfl rfl rfl ?_
                                      | (refine K.GL.want 150 rfl rfl rfl ?_
                                         refine K.GL.det ((ev_sint_con (l := intl gd.v.list) (m := intl gd.v.list) Tryz.call21 rfl (by rw [intl_length]; omega) (by rw [intl_length]; omega)).cast_bool (b := true) (decide_eq_true rfl)) rfl ?_)
                                    first
                                      | refine K.GL.skip 150 rfl rfl rfl rfl ?_
                                      | refine K.GL.skipU 150 rfl rfl rfl rfl ?_
                                      | refine K.GL.skip0 150 rfl rfl rfl ?_
                                      | (refine K.GL.want 150 rfl rfl rfl ?_
                                         first | refine K.GL.det (K.e_notp rfl) rfl ?_ | refine K.GL.det (K.e_not rfl) rfl ?_)
                                    first | refine K.GL.det (K.e_pick_t rfl rfl) rfl ?_ | refine K.GL.det (K.e_pick_f rfl rfl) rfl ?_
                                    refine K.GL.nil ?_
                                    refine K.GQ.go ?_
                                    refine K.GC.condB rfl (fun h19 => ?_) (fun h19 => ?_)
                                    · first
                                      | exact absurd h19 (by decide)
                                      | try replace h19 := of_decide_eq_true h19
                                        refine K.GC.seq ?_
                                        refine K.GC.region ?_
                                        refine K.GL.det (K.e_assign rfl) rfl ?_
                                        refine K.GL.nil ?_
                                        refine K.GQ.go ?_
                                        refine K.GC.ret ?_
                                        refine K.GQ.block_ret ?_
                                        refine K.GQ.then_ret ?_
                                        refine K.GQ.then_ret ?_
                                        refine K.GQ.block_ret ?_
                                        refine K.GQ.then_ret ?_
                                        refine K.GQ.ret1 Tryz.results3 rfl (fun w hT => ?_)
                                        exact ⟨rfl, hT.sub K.sb⟩
                                    · first
                                      | exact absurd h19 (by decide)
                                      | try replace h19 := of_decide_eq_false h19
                                        refine K.GC.skip ?_
                                        refine K.GQ.block_normal ?_
                                        refine K.GQ.go ?_
                                        refine K.GC.region ?_
                                        refine K.GL.det (K.e_move rfl) rfl ?_
                                        first | refine K.GL.det (K.e_add rfl rfl ⟨by omega, by omega⟩) rfl ?_ | refine K.GL.det (K.e_addw rfl rfl) rfl ?_
                                        refine K.GL.det (K.e_assign rfl) rfl ?_
                                        refine K.GL.nil ?_
                                        exact K.GQ.round ((z.1 + 1, gd, gr) : Nat × DG × RG) ⟨by show z.1 + 1 ≤ _; omega, hkd, hkr, hs2⟩ (by simp only; omega) (by (repeat refine ⟨rfl, ?_⟩); exact trivial) (by first | exact K.sb | (dsimp only; exact K.sb))
                        · first
                          | exact absurd h14 (by decide)
                          | try replace h14 := of_decide_eq_false h14
                            refine K.GC.seq ?_
                            refine K.GC.region ?_
                            first | refine K.GL.det ((K.e_eq rfl rfl).yes (by first | omega | assumption | decide +kernel)) rfl ?_ | refine K.GL.det ((K.e_eq rfl rfl).no (by first | omega | assumption | decide +kernel)) rfl ?_ | refine K.GL.det (K.e_eq rfl rfl) rfl ?_
                            refine K.GL.det (K.e_assign rfl) rfl ?_
                            refine K.GL.nil ?_
                            refine K.GQ.go ?_
                            refine K.GC.condB rfl (fun h20 => ?_) (fun h20 => ?_)
                            · first
                              | exact absurd h20 (by decide)
                              | try replace h20 := of_decide_eq_true h20
                                refine K.GC.seq ?_
                                refine K.GC.region ?_
                                refine K.GL.det (K.e_move rfl) rfl ?_
                                first | refine K.GL.det (K.e_fa fo38_2 rfl) rfl ?_ | refine K.GL.det (K.e_fieldAddr fo38_2 rfl) rfl ?_
                                first | refine K.GL.det (K.e_fa fo36_4 rfl) rfl ?_ | refine K.GL.det (K.e_fieldAddr fo36_4 rfl) rfl ?_
                                first | refine K.GL.det (K.e_ldE Tryz.isAgg33 rfl rfl (by assumption) rfl) rfl ?_ | refine K.GL.det (K.e_ldF Tryz.isAgg33 rfl rfl (by assumption) rfl) rfl ?_ | refine K.GL.det (K.e_load Tryz.isAgg33 rfl rfl) rfl ?_ | refine K.GL.det (K.e_load0 Tryz.isAgg33 rfl (by assumption)) rfl ?_
                                first | refine K.GL.det (K.e_fa fo38_2 rfl) rfl ?_ | refine K.GL.det (K.e_fieldAddr fo38_2 rfl) rfl ?_
                                first | refine K.GL.det (K.e_fa fo36_5 rfl) rfl ?_ | refine K.GL.det (K.e_fieldAddr fo36_5 rfl) rfl ?_
                                first | refine K.GL.det (K.e_ldE Tryz.isAgg34 rfl rfl (by assumption) rfl) rfl ?_ | refine K.GL.det (K.e_ldF Tryz.isAgg34 rfl rfl (by assumption) rfl) rfl ?_ | refine K.GL.det (K.e_load Tryz.isAgg34 rfl rfl) rfl ?_ | refine K.GL.det (K.e_load0 Tryz.isAgg34 rfl (by assumption)) rfl ?_
                                refine gl_dboot_con (g := z.2.1) (s := z.2.1.v) (ks := q53.d.ks) (hs := q53.d.hs) Tryz.call12 rfl hI.2.1 rfl hgd.v.bits hlh rfl (fun gd hkd hvd => ?_)
                                refine K.GL.nil ?_
                                refine K.GQ.go ?_
                                refine K.GC.region ?_
                                refine K.GL.det (K.e_move rfl) rfl ?_
                                first | refine K.GL.det (K.e_fa fo38_2 rfl) rfl ?_ | refine K.GL.det (K.e_fieldAddr fo38_2 rfl) rfl ?_
                                first | refine K.GL.det (K.e_fa fo36_4 rfl) rfl ?_ | refine K.GL.det (K.e_fieldAddr fo36_4 rfl) rfl ?_
                                first | refine K.GL.det (K.e_ldE Tryz.isAgg33 rfl rfl (by assumption) rfl) rfl ?_ | refine K.GL.det (K.e_ldF Tryz.isAgg33 rfl rfl (by assumption) rfl) rfl ?_ | refine K.GL.det (K.e_load Tryz.isAgg33 rfl rfl) rfl ?_ | refine K.GL.det (K.e_load0 Tryz.isAgg33 rfl (by assumption)) rfl ?_
                                first | refine K.GL.det (K.e_fa fo38_2 rfl) rfl ?_ | refine K.GL.det (K.e_fieldAddr fo38_2 rfl) rfl ?_
                                first | refine K.GL.det (K.e_fa fo36_5 rfl) rfl ?_ | refine K.GL.det (K.e_fieldAddr fo36_5 rfl) rfl ?_
                                first | refine K.GL.det (K.e_ldE Tryz.isAgg34 rfl rfl (by assumption) rfl) rfl ?_ | refine K.GL.det (K.e_ldF Tryz.isAgg34 rfl rfl (by assumption) rfl) rfl ?_ | refine K.GL.det (K.e_load Tryz.isAgg34 rfl rfl) rfl ?_ | refine K.GL.det (K.e_load0 Tryz.isAgg34 rfl (by assumption)) rfl ?_
                                refine gl_rdboot_con (g := z.2.2) (s := z.2.1.v) (ks := q53.d.ks) (hs := q53.d.hs) Tryz.call13 rfl hI.2.2.1 hI.2.2.2 hgd.v.bits hlh rfl (fun vr gr hkr hvr => ?_)
                                refine K.GL.nil ?_
                                refine K.GQ.block_normal ?_
                                refine K.GQ.go ?_
                                refine K.GC.seq ?_
                                have hs2 : gr.s = gd.v := hvr.trans hvd.symm
                                have hll := load_len gd.v
                                have hli : gd.v.list.length ≤ 4096 := by
                                  have h1 := List.length_filter_le (fun i => (gd.v.loose i).isSome) (List.range gd.v.kept.length)
                                  rw [List.length_range] at h1
                                  have h2 : gd.v.kept.length = gd.kept.length := rfl
                                  have h3 := hkd.n2
                                  have h4 : gd.v.list.length ≤ gd.v.kept.length := h1
                                  omega
                                refine K.GC.region ?_
                                refine K.GL.det (K.e_move rfl) rfl ?_
                                refine gl_load_con (g := gd) (s := gd.v) Tryz.call16 rfl hkd rfl rfl (fun a119 c119 => ?_)
                                refine K.GL.det (K.e_move rfl) rfl ?_
                                refine K.GL.det (K.e_extract rfl rfl) rfl ?_
                                refine K.GL.det (K.e_extract rfl rfl) rfl ?_
                                refine K.GL.det (K.e_extract rfl rfl) rfl ?_
                                refine K.GL.alloc Tryz.zeroValue31 rfl rfl (fun b13 => ?_)
                                refine K.GL.storeP (vs := tabC gd.v.load.1 a119 c119) (cs' := tabC gd.v.load.1 a119 c119) rfl rfl rfl Tryz.sizeOf31 rfl rfl (by exact spliceO_all rfl) ?_
                                refine K.GL.det (K.e_assign rfl) rfl ?_
                                refine K.GL.det (K.e_assign rfl) rfl ?_
                                refine K.GL.nil ?_
                                refine K.GQ.go ?_
                                refine K.GC.seq ?_
                                refine K.GC.region ?_
                                refine K.GL.det (K.e_move rfl) rfl ?_
                                refine gl_rload_con (g := gr) (s := gd.v) Tryz.call17 rfl hkr hs2 rfl (fun a125 c125 => ?_)
                                refine K.GL.det (K.e_move rfl) rfl ?_
                                refine K.GL.det (K.e_extract rfl rfl) rfl ?_
                                refine K.GL.det (K.e_extract rfl rfl) rfl ?_
                                refine K.GL.det (K.e_extract rfl rfl) rfl ?_
                                refine K.GL.alloc Tryz.zeroValue31 rfl rfl (fun b16 => ?_)
                                refine K.GL.storeP (vs := tabC gd.v.load.1 a125 c125) (cs' := tabC gd.v.load.1 a125 c125) rfl rfl rfl Tryz.sizeOf31 rfl rfl (by exact spliceO_all rfl) ?_
                                refine K.GL.det (K.e_assign rfl) rfl ?_
                                refine K.GL.det (K.e_assign rfl) rfl ?_
                                refine K.GL.nil ?_
                                refine K.GQ.go ?_
                                refine K.GC.seq ?_
                                refine K.GC.region ?_
                                first | refine K.GL.det (K.e_ldA Tryz.isAgg31 Tryz.sizeOf31 rfl rfl (by assumption)) rfl ?_ | refine K.GL.det (K.e_ldAF Tryz.isAgg31 Tryz.sizeOf31 rfl rfl (by assumption) rfl) rfl ?_ | refine K.GL.det (K.e_loads Tryz.isAgg31 Tryz.sizeOf31 rfl rfl) rfl ?_
                                first | refine K.GL.det (K.e_ldA Tryz.isAgg31 Tryz.sizeOf31 rfl rfl (by assumption)) rfl ?_ | refine K.GL.det (K.e_ldAF Tryz.isAgg31 Tryz.sizeOf31 rfl rfl (by assumption) rfl) rfl ?_ | refine K.GL.det (K.e_loads Tryz.isAgg31 Tryz.sizeOf31 rfl rfl) rfl ?_
                                refine K.GL.det ((ev_rsame_con (t := gd.v.load.1) (u := gd.v.load.1) Tryz.call18 rfl (by first | assumption | exact getT_len _ | (simp; done) | decide) (by first | assumption | exact getT_len _ | (simp; done) | decide)).cast_bool (b := true) (decide_eq_true rfl)) rfl ?_
                                first | refine K.GL.det (K.e_notp rfl) rfl ?_ | refine K.GL.det (K.e_not rfl) rfl ?_
                                refine K.GL.det (K.e_move rfl) rfl ?_
                                first | refine K.GL.splitB 133 rfl (fun h21 => ?_) (fun h21 => ?_) | skip
                                all_goals first | exact absurd h21 (by decide) | replace h21 := of_decide_eq_true h21 | replace h21 := of_decide_eq_false h21 | skip
                                all_goals
                                  first
                                    | refine K.GL.skip 133 rfl rfl rfl rfl ?_
                                    | refine K.GL.skipU 133 rfl rfl rfl rfl ?_
                                    | refine K.GL.skip0 133 rfl rfl rfl ?_
                                    | (refine K.GL.want 133 rfl rfl rfl ?_
                                       refine K.GL.det (K.e_move rfl) rfl ?_)
                                  first
                                    | refine K.GL.skip 133 rfl rfl rfl rfl ?_
                                    | refine K.GL.skipU 133 rfl rfl rfl rfl ?_
                                    | refine K.GL.skip0 133 rfl rfl rfl ?_
                                    | (refine K.GL.want 133 rfl rfl rfl ?_
                                       refine K.GL.det (K.e_move rfl) rfl ?_)
                                  first
                                    | refine K.GL.skip 133 rfl rfl rfl rfl ?_
                                    | refine K.GL.skipU 133 rfl rfl rfl rfl ?_
                                    | refine K.GL.skip0 133 rfl rfl rfl ?_
                                    | (refine K.GL.want 133 rfl rfl rfl ?_
                                       refine K.GL.det ((K.e_neb Tryz.underlying4 rfl rfl).cast_bool (b := false) (by simp)) rfl ?_)
                                  first | refine K.GL.det (K.e_pick_t rfl rfl) rfl ?_ | refine K.GL.det (K.e_pick_f rfl rfl) rfl ?_
                                  refine K.GL.det (K.e_move rfl) rfl ?_
                                  first | refine K.GL.splitB 138 rfl (fun h22 => ?_) (fun h22 => ?_) | skip
                                  all_goals first | exact absurd h22 (by decide) | replace h22 := of_decide_eq_true h22 | replace h22 := of_decide_eq_false h22 | skip
                                  all_goals
                                    first
                                      | refine K.GL.skip 138 rfl rfl rfl rfl ?_
                                      | refine K.GL.skipU 138 rfl rfl rfl rfl ?_
                                      | refine K.GL.skip0 138 rfl rfl rfl ?_
                                      | (refine K.GL.want 138 rfl rfl rfl ?_
                                         refine K.GL.det (K.e_move rfl) rfl ?_)
                                    first
                                      | refine K.GL.skip 138 rfl rfl rfl rfl ?_
                                      | refine K.GL.skipU 138 rfl rfl rfl rfl ?_
                                      | refine K.GL.skip0 138 rfl rfl rfl ?_
                                      | (refine K.GL.want 138 rfl rfl rfl ?_
                                         refine K.GL.det (K.e_move rfl) rfl ?_)
                                    first
                                      | refine K.GL.skip 138 rfl rfl rfl rfl ?_
                                      | refine K.GL.skipU 138 rfl rfl rfl rfl ?_
                                      | refine K.GL.skip0 138 rfl rfl rfl ?_
                                      | (refine K.GL.want 138 rfl rfl rfl ?_
                                         refine K.GL.det ((K.e_ne rfl rfl).no (not_not_intro rfl)) rfl ?_)
                                    first | refine K.GL.det (K.e_pick_t rfl rfl) rfl ?_ | refine K.GL.det (K.e_pick_f rfl rfl) rfl ?_
                                    refine K.GL.det (K.e_move rfl) rfl ?_
                                    first | refine K.GL.splitB 143 rfl (fun h23 => ?_) (fun h23 => ?_) | skip
                                    all_goals first | exact absurd h23 (by decide) | replace h23 := of_decide_eq_true h23 | replace h23 := of_decide_eq_false h23 | skip
                                    all_goals
                                      first
                                        | refine K.GL.skip 143 rfl rfl rfl rfl ?_
                                        | refine K.GL.skipU 143 rfl rfl rfl rfl ?_
                                        | refine K.GL.skip0 143 rfl rfl rfl ?_
                                        | (refine K.GL.want 143 rfl rfl rfl ?_
                                           refine K.GL.det (K.e_move rfl) rfl ?_)
                                      first
                                        | refine K.GL.skip 143 rfl rfl rfl rfl ?_
                                        | refine K.GL.skipU 143 rfl rfl rfl rfl ?_
                                        | refine K.GL.skip0 143 rfl rfl rfl ?_
                                        | (refine K.GL.want 143 rfl rfl rfl ?_
                                           refine gl_ddone_con (gd := gd) (s := gd.v) Tryz.call19 rfl rfl rfl (?_))
                                      first
                                        | refine K.GL.skip 143 rfl rfl rfl rfl ?_
                                        | refine K.GL.skipU 143 rfl rfl rfl rfl ?_
                                        | refine K.GL.skip0 143 rfl rfl rfl ?_
                                        | (refine K.GL.want 143 rfl rfl rfl ?_
                                           refine K.GL.det (K.e_move rfl) rfl ?_)
                                      first
                                        | refine K.GL.skip 143 rfl rfl rfl rfl ?_
                                        | refine K.GL.skipU 143 rfl rfl rfl rfl ?_
                                        | refine K.GL.skip0 143 rfl rfl rfl ?_
                                        | (refine K.GL.want 143 rfl rfl rfl ?_
                                           refine K.GL.det (ev_rddone_con (g := gr) (s := gd.v) Tryz.call20 rfl hs2) rfl ?_)
                                      first
                                        | refine K.GL.skip 143 rfl rfl rfl rfl ?_
                                        | refine K.GL.skipU 143 rfl rfl rfl rfl ?_
                                        | refine K.GL.skip0 143 rfl rfl rfl ?_
                                        | (refine K.GL.want 143 rfl rfl rfl ?_
                                           refine K.GL.det ((K.e_ne rfl rfl).no (not_not_intro rfl)) rfl ?_)
                                      first | refine K.GL.det (K.e_pick_t rfl rfl) rfl ?_ | refine K.GL.det (K.e_pick_f rfl rfl) rfl ?_
                                      refine K.GL.det (K.e_move rfl) rfl ?_
                                      first | refine K.GL.splitB 150 rfl (fun h24 => ?_) (fun h24 => ?_) | skip
                                      all_goals first | exact absurd h24 (by decide) | replace h24 := of_decide_eq_true h24 | replace h24 := of_decide_eq_false h24 | skip
                                      all_goals
                                        first
                                          | refine K.GL.skip 150 rfl rfl rfl rfl ?_
                                          | refine K.GL.skipU 150 rfl rfl rfl rfl ?_
                                          | refine K.GL.skip0 150 rfl rfl rfl ?_
                                          | (refine K.GL.want 150 rfl rfl rfl ?_
                                             refine K.GL.det (K.e_move rfl) rfl ?_)
                                        first
                                          | refine K.GL.skip 150 rfl rfl rfl rfl ?_
                                          | refine K.GL.skipU 150 rfl rfl rfl rfl ?_
                                          | refine K.GL.skip0 150 rfl rfl rfl ?_
                                          | (refine K.GL.want 150 rfl rfl rfl ?_
                                             refine gl_dloose_con (g := gd) (s := gd.v) Tryz.call22 rfl hkd rfl rfl (fun a152 c152 => ?_))
                                        first
                                          | refine K.GL.skip 150 rfl rfl rfl rfl ?_
                                          | refine K.GL.skipU 150 rfl rfl rfl rfl ?_
                                          | refine K.GL.skip0 150 rfl rfl rfl ?_
                                          | (refine K.GL.want 150 rfl rfl rfl ?_
                                             refine K.GL.det (K.e_move rfl) rfl ?_)
                                        first
                                          | refine K.GL.skip 150 rfl rfl rfl rfl ?_
                                          | refine K.GL.skipU 150 rfl rfl rfl rfl ?_
                                          | refine K.GL.skip0 150 rfl rfl rfl ?_
                                          | (refine K.GL.want 150 rfl rfl rfl ?_
                                             refine gl_rdloose_con (g := gr) (s := gd.v) Tryz.call23 rfl hkr hs2 rfl (fun a154 c154 => ?_))
                                        first
                                          | refine K.GL.skip 150 rfl rfl rfl rfl ?_
                                          | refine K.GL.skipU 150 rfl rfl rfl rfl ?_
                                          | refine K.GL.skip0 150 rfl rfl rfl ?_
                                          | (refine K.GL.want 150 rfl rfl rfl ?_
                                             refine K.GL.det ((ev_sint_con (l := intl gd.v.list) (m := intl gd.v.list) Tryz.call21 rfl (by rw [intl_length]; omega) (by rw [intl_length]; omega)).cast_bool (b := true) (decide_eq_true rfl)) rfl ?_)
                                        first
                                          | refine K.GL.skip 150 rfl rfl rfl rfl ?_
                                          | refine K.GL.skipU 150 rfl rfl rfl rfl ?_
                                          | refine K.GL.skip0 150 rfl rfl rfl ?_
                                          | (refine K.GL.want 150 rfl rfl rfl ?_
                                             first | refine K.GL.det (K.e_notp rfl) rfl ?_ | refine K.GL.det (K.e_not rfl) rfl ?_)
                                        first | refine K.GL.det (K.e_pick_t rfl rfl) rfl ?_ | refine K.GL.det (K.e_pick_f rfl rfl) rfl ?_
                                        refine K.GL.nil ?_
                                        refine K.GQ.go ?_
                                        refine K.GC.condB rfl (fun h25 => ?_) (fun h25 => ?_)
                                        · first
                                          | exact absurd h25 (by decide)
                                          | try replace h25 := of_decide_eq_true h25
                                            refine K.GC.seq ?_
                                            refine K.GC.region ?_
                                            refine K.GL.det (K.e_assign rfl) rfl ?_
                                            refine K.GL.nil ?_
                                            refine K.GQ.go ?_
                                            refine K.GC.ret ?_
                                            refine K.GQ.block_ret ?_
                                            refine K.GQ.then_ret ?_
                                            refine K.GQ.then_ret ?_
                                            refine K.GQ.block_ret ?_
                                            refine K.GQ.then_ret ?_
                                            refine K.GQ.ret1 Tryz.results3 rfl (fun w hT => ?_)
                                            exact ⟨rfl, hT.sub K.sb⟩
                                        · first
                                          | exact absurd h25 (by decide)
                                          | try replace h25 := of_decide_eq_false h25
                                            refine K.GC.skip ?_
                                            refine K.GQ.block_normal ?_
                                            refine K.GQ.go ?_
                                            refine K.GC.region ?_
                                            refine K.GL.det (K.e_move rfl) rfl ?_
                                            first | refine K.GL.det (K.e_add rfl rfl ⟨by omega, by omega⟩) rfl ?_ | refine K.GL.det (K.e_addw rfl rfl) rfl ?_
                                            refine K.GL.det (K.e_assign rfl) rfl ?_
                                            refine K.GL.nil ?_
                                            exact K.GQ.round ((z.1 + 1, gd, gr) : Nat × DG × RG) ⟨by show z.1 + 1 ≤ _; omega, hkd, hkr, hs2⟩ (by simp only; omega) (by (repeat refine ⟨rfl, ?_⟩); exact trivial) (by first | exact K.sb | (dsimp only; exact K.sb))
                            · first
                              | exact absurd h20 (by decide)
                              | try replace h20 := of_decide_eq_false h20
                                refine K.GC.seq ?_
                                refine K.GC.region ?_
                                refine K.GL.det (K.e_move rfl) rfl ?_
                                first | refine K.GL.det (K.e_fa fo38_2 rfl) rfl ?_ | refine K.GL.det (K.e_fieldAddr fo38_2 rfl) rfl ?_
                                first | refine K.GL.det (K.e_fa fo36_1 rfl) rfl ?_ | refine K.GL.det (K.e_fieldAddr fo36_1 rfl) rfl ?_
                                first | refine K.GL.det (K.e_ldE Tryz.isAgg3 rfl rfl (by assumption) rfl) rfl ?_ | refine K.GL.det (K.e_ldF Tryz.isAgg3 rfl rfl (by assumption) rfl) rfl ?_ | refine K.GL.det (K.e_load Tryz.isAgg3 rfl rfl) rfl ?_ | refine K.GL.det (K.e_load0 Tryz.isAgg3 rfl (by assumption)) rfl ?_
                                first | refine K.GL.det (K.e_fa fo38_2 rfl) rfl ?_ | refine K.GL.det (K.e_fieldAddr fo38_2 rfl) rfl ?_
                                first | refine K.GL.det (K.e_fa fo36_3 rfl) rfl ?_ | refine K.GL.det (K.e_fieldAddr fo36_3 rfl) rfl ?_
                                first | refine K.GL.det (K.e_ldE Tryz.isAgg32 rfl rfl (by assumption) rfl) rfl ?_ | refine K.GL.det (K.e_ldF Tryz.isAgg32 rfl rfl (by assumption) rfl) rfl ?_ | refine K.GL.det (K.e_load Tryz.isAgg32 rfl rfl) rfl ?_ | refine K.GL.det (K.e_load0 Tryz.isAgg32 rfl (by assumption)) rfl ?_
                                refine gl_dwrite_con (g := z.2.1) (s := z.2.1.v) (i := q53.d.at_) (bs := q53.d.bs) Tryz.call14 rfl hI.2.1 rfl rfl (fun gd hkd hvd => ?_)
                                refine K.GL.nil ?_
                                refine K.GQ.go ?_
                                refine K.GC.region ?_
                                refine K.GL.det (K.e_move rfl) rfl ?_
                                first | refine K.GL.det (K.e_fa fo38_2 rfl) rfl ?_ | refine K.GL.det (K.e_fieldAddr fo38_2 rfl) rfl ?_
                                first | refine K.GL.det (K.e_fa fo36_1 rfl) rfl ?_ | refine K.GL.det (K.e_fieldAddr fo36_1 rfl) rfl ?_
                                first | refine K.GL.det (K.e_ldE Tryz.isAgg3 rfl rfl (by assumption) rfl) rfl ?_ | refine K.GL.det (K.e_ldF Tryz.isAgg3 rfl rfl (by assumption) rfl) rfl ?_ | refine K.GL.det (K.e_load Tryz.isAgg3 rfl rfl) rfl ?_ | refine K.GL.det (K.e_load0 Tryz.isAgg3 rfl (by assumption)) rfl ?_
                                first | refine K.GL.det (K.e_fa fo38_2 rfl) rfl ?_ | refine K.GL.det (K.e_fieldAddr fo38_2 rfl) rfl ?_
                                first | refine K.GL.det (K.e_fa fo36_3 rfl) rfl ?_ | refine K.GL.det (K.e_fieldAddr fo36_3 rfl) rfl ?_
                                first | refine K.GL.det (K.e_ldE Tryz.isAgg32 rfl rfl (by assumption) rfl) rfl ?_ | refine K.GL.det (K.e_ldF Tryz.isAgg32 rfl rfl (by assumption) rfl) rfl ?_ | refine K.GL.det (K.e_load Tryz.isAgg32 rfl rfl) rfl ?_ | refine K.GL.det (K.e_load0 Tryz.isAgg32 rfl (by assumption)) rfl ?_
                                refine gl_rdwrite_con (g := z.2.2) (s := z.2.1.v) (i := q53.d.at_) (bs := q53.d.bs) Tryz.call15 rfl hI.2.2.1 hI.2.2.2 rfl (fun gr hkr hvr => ?_)
                                refine K.GL.nil ?_
                                refine K.GQ.block_normal ?_
                                refine K.GQ.go ?_
                                refine K.GC.seq ?_
                                have hs2 : gr.s = gd.v := hvr.trans hvd.symm
                                have hll := load_len gd.v
                                have hli : gd.v.list.length ≤ 4096 := by
                                  have h1 := List.length_filter_le (fun i => (gd.v.loose i).isSome) (List.range gd.v.kept.length)
                                  rw [List.length_range] at h1
                                  have h2 : gd.v.kept.length = gd.kept.length := rfl
                                  have h3 := hkd.n2
                                  have h4 : gd.v.list.length ≤ gd.v.kept.length := h1
                                  omega
                                refine K.GC.region ?_
                                refine K.GL.det (K.e_move rfl) rfl ?_
                                refine gl_load_con (g := gd) (s := gd.v) Tryz.call16 rfl hkd rfl rfl (fun a119 c119 => ?_)
                                refine K.GL.det (K.e_move rfl) rfl ?_
                                refine K.GL.det (K.e_extract rfl rfl) rfl ?_
                                refine K.GL.det (K.e_extract rfl rfl) rfl ?_
                                refine K.GL.det (K.e_extract rfl rfl) rfl ?_
                                refine K.GL.alloc Tryz.zeroValue31 rfl rfl (fun b13 => ?_)
                                refine K.GL.storeP (vs := tabC gd.v.load.1 a119 c119) (cs' := tabC gd.v.load.1 a119 c119) rfl rfl rfl Tryz.sizeOf31 rfl rfl (by exact spliceO_all rfl) ?_
                                refine K.GL.det (K.e_assign rfl) rfl ?_
                                refine K.GL.det (K.e_assign rfl) rfl ?_
                                refine K.GL.nil ?_
                                refine K.GQ.go ?_
                                refine K.GC.seq ?_
                                refine K.GC.region ?_
                                refine K.GL.det (K.e_move rfl) rfl ?_
                                refine gl_rload_con (g := gr) (s := gd.v) Tryz.call17 rfl hkr hs2 rfl (fun a125 c125 => ?_)
                                refine K.GL.det (K.e_move rfl) rfl ?_
                                refine K.GL.det (K.e_extract rfl rfl) rfl ?_
                                refine K.GL.det (K.e_extract rfl rfl) rfl ?_
                                refine K.GL.det (K.e_extract rfl rfl) rfl ?_
                                refine K.GL.alloc Tryz.zeroValue31 rfl rfl (fun b16 => ?_)
                                refine K.GL.storeP (vs := tabC gd.v.load.1 a125 c125) (cs' := tabC gd.v.load.1 a125 c125) rfl rfl rfl Tryz.sizeOf31 rfl rfl (by exact spliceO_all rfl) ?_
                                refine K.GL.det (K.e_assign rfl) rfl ?_
                                refine K.GL.det (K.e_assign rfl) rfl ?_
                                refine K.GL.nil ?_
                                refine K.GQ.go ?_
                                refine K.GC.seq ?_
                                refine K.GC.region ?_
                                first | refine K.GL.det (K.e_ldA Tryz.isAgg31 Tryz.sizeOf31 rfl rfl (by assumption)) rfl ?_ | refine K.GL.det (K.e_ldAF Tryz.isAgg31 Tryz.sizeOf31 rfl rfl (by assumption) rfl) rfl ?_ | refine K.GL.det (K.e_loads Tryz.isAgg31 Tryz.sizeOf31 rfl rfl) rfl ?_
                                first | refine K.GL.det (K.e_ldA Tryz.isAgg31 Tryz.sizeOf31 rfl rfl (by assumption)) rfl ?_ | refine K.GL.det (K.e_ldAF Tryz.isAgg31 Tryz.sizeOf31 rfl rfl (by assumption) rfl) rfl ?_ | refine K.GL.det (K.e_loads Tryz.isAgg31 Tryz.sizeOf31 rfl rfl) rfl ?_
                                refine K.GL.det ((ev_rsame_con (t := gd.v.load.1) (u := gd.v.load.1) Tryz.call18 rfl (by first | assumption | exact getT_len _ | (simp; done) | decide) (by first | assumption | exact getT_len _ | (simp; done) | decide)).cast_bool (b := true) (decide_eq_true rfl)) rfl ?_
                                first | refine K.GL.det (K.e_notp rfl) rfl ?_ | refine K.GL.det (K.e_not rfl) rfl ?_
                                refine K.GL.det (K.e_move rfl) rfl ?_
                                first | refine K.GL.splitB 133 rfl (fun h26 => ?_) (fun h26 => ?_) | skip
                                all_goals first | exact absurd h26 (by decide) | replace h26 := of_decide_eq_true h26 | replace h26 := of_decide_eq_false h26 | skip
                                all_goals
                                  first
                                    | refine K.GL.skip 133 rfl rfl rfl rfl ?_
                                    | refine K.GL.skipU 133 rfl rfl rfl rfl ?_
                                    | refine K.GL.skip0 133 rfl rfl rfl ?_
                                    | (refine K.GL.want 133 rfl rfl rfl ?_
                                       refine K.GL.det (K.e_move rfl) rfl ?_)
                                  first
                                    | refine K.GL.skip 133 rfl rfl rfl rfl ?_
                                    | refine K.GL.skipU 133 rfl rfl rfl rfl ?_
                                    | refine K.GL.skip0 133 rfl rfl rfl ?_
                                    | (refine K.GL.want 133 rfl rfl rfl ?_
                                       refine K.GL.det (K.e_move rfl) rfl ?_)
                                  first
                                    | refine K.GL.skip 133 rfl rfl rfl rfl ?_
                                    | refine K.GL.skipU 133 rfl rfl rfl rfl ?_
                                    | refine K.GL.skip0 133 rfl rfl rfl ?_
                                    | (refine K.GL.want 133 rfl rfl rfl ?_
                                       refine K.GL.det ((K.e_neb Tryz.underlying4 rfl rfl).cast_bool (b := false) (by simp)) rfl ?_)
                                  first | refine K.GL.det (K.e_pick_t rfl rfl) rfl ?_ | refine K.GL.det (K.e_pick_f rfl rfl) rfl ?_
                                  refine K.GL.det (K.e_move rfl) rfl ?_
                                  first | refine K.GL.splitB 138 rfl (fun h27 => ?_) (fun h27 => ?_) | skip
                                  all_goals first | exact absurd h27 (by decide) | replace h27 := of_decide_eq_true h27 | replace h27 := of_decide_eq_false h27 | skip
                                  all_goals
                                    first
                                      | refine K.GL.skip 138 rfl rfl rfl rfl ?_
                                      | refine K.GL.skipU 138 rfl rfl rfl rfl ?_
                                      | refine K.GL.skip0 138 rfl rfl rfl ?_
                                      | (refine K.GL.want 138 rfl rfl rfl ?_
                                         refine K.GL.det (K.e_move rfl) rfl ?_)
                                    first
                                      | refine K.GL.skip 138 rfl rfl rfl rfl ?_
                                      | refine K.GL.skipU 138 rfl rfl rfl rfl ?_
                                      | refine K.GL.skip0 138 rfl rfl rfl ?_
                                      | (refine K.GL.want 138 rfl rfl rfl ?_
                                         refine K.GL.det (K.e_move rfl) rfl ?_)
                                    first
                                      | refine K.GL.skip 138 rfl rfl rfl rfl ?_
                                      | refine K.GL.skipU 138 rfl rfl rfl rfl ?_
                                      | refine K.GL.skip0 138 rfl rfl rfl ?_
                                      | (refine K.GL.want 138 rfl rfl rfl ?_
                                         refine K.GL.det ((K.e_ne rfl rfl).no (not_not_intro rfl)) rfl ?_)
                                    first | refine K.GL.det (K.e_pick_t rfl rfl) rfl ?_ | refine K.GL.det (K.e_pick_f rfl rfl) rfl ?_
                                    refine K.GL.det (K.e_move rfl) rfl ?_
                                    first | refine K.GL.splitB 143 rfl (fun h28 => ?_) (fun h28 => ?_) | skip
                                    all_goals first | exact absurd h28 (by decide) | replace h28 := of_decide_eq_true h28 | replace h28 := of_decide_eq_false h28 | skip
                                    all_goals
                                      first
                                        | refine K.GL.skip 143 rfl rfl rfl rfl ?_
                                        | refine K.GL.skipU 143 rfl rfl rfl rfl ?_
                                        | refine K.GL.skip0 143 rfl rfl rfl ?_
                                        | (refine K.GL.want 143 rfl rfl rfl ?_
                                           refine K.GL.det (K.e_move rfl) rfl ?_)
                                      first
                                        | refine K.GL.skip 143 rfl rfl rfl rfl ?_
                                        | refine K.GL.skipU 143 rfl rfl rfl rfl ?_
                                        | refine K.GL.skip0 143 rfl rfl rfl ?_
                                        | (refine K.GL.want 143 rfl rfl rfl ?_
                                           refine gl_ddone_con (gd := gd) (s := gd.v) Tryz.call19 rfl rfl rfl (?_))
                                      first
                                        | refine K.GL.skip 143 rfl rfl rfl rfl ?_
                                        | refine K.GL.skipU 143 rfl rfl rfl rfl ?_
                                        | refine K.GL.skip0 143 rfl rfl rfl ?_
                                        | (refine K.GL.want 143 rfl rfl rfl ?_
                                           refine K.GL.det (K.e_move rfl) rfl ?_)
                                      first
                                        | refine K.GL.skip 143 rfl rfl rfl rfl ?_
                                        | refine K.GL.skipU 143 rfl rfl rfl rfl ?_
                                        | refine K.GL.skip0 143 rfl rfl rfl ?_
                                        | (refine K.GL.want 143 rfl rfl rfl ?_
                                           refine K.GL.det (ev_rddone_con (g := gr) (s := gd.v) Tryz.call20 rfl hs2) rfl ?_)
                                      first
                                        | refine K.GL.skip 143 rfl rfl rfl rfl ?_
                                        | refine K.GL.skipU 143 rfl rfl rfl rfl ?_
                                        | refine K.GL.skip0 143 rfl rfl rfl ?_
                                        | (refine K.GL.want 143 rfl rfl rfl ?_
                                           refine K.GL.det ((K.e_ne rfl rfl).no (not_not_intro rfl)) rfl ?_)
                                      first | refine K.GL.det (K.e_pick_t rfl rfl) rfl ?_ | refine K.GL.det (K.e_pick_f rfl rfl) rfl ?_
                                      refine K.GL.det (K.e_move rfl) rfl ?_
                                      first | refine K.GL.splitB 150 rfl (fun h29 => ?_) (fun h29 => ?_) | skip
                                      all_goals first | exact absurd h29 (by decide) | replace h29 := of_decide_eq_true h29 | replace h29 := of_decide_eq_false h29 | skip
                                      all_goals
                                        first
                                          | refine K.GL.skip 150 rfl rfl rfl rfl ?_
                                          | refine K.GL.skipU 150 rfl rfl rfl rfl ?_
                                          | refine K.GL.skip0 150 rfl rfl rfl ?_
                                          | (refine K.GL.want 150 rfl rfl rfl ?_
                                             refine K.GL.det (K.e_move rfl) rfl ?_)
                                        first
                                          | refine K.GL.skip 150 rfl rfl rfl rfl ?_
                                          | refine K.GL.skipU 150 rfl rfl rfl rfl ?_
                                          | refine K.GL.skip0 150 rfl rfl rfl ?_
                                          | (refine K.GL.want 150 rfl rfl rfl ?_
                                             refine gl_dloose_con (g := gd) (s := gd.v) Tryz.call22 rfl hkd rfl rfl (fun a152 c152 => ?_))
                                        first
                                          | refine K.GL.skip 150 rfl rfl rfl rfl ?_
                                          | refine K.GL.skipU 150 rfl rfl rfl rfl ?_
                                          | refine K.GL.skip0 150 rfl rfl rfl ?_
                                          | (refine K.GL.want 150 rfl rfl rfl ?_
                                             refine K.GL.det (K.e_move rfl) rfl ?_)
                                        first
                                          | refine K.GL.skip 150 rfl rfl rfl rfl ?_
                                          | refine K.GL.skipU 150 rfl rfl rfl rfl ?_
                                          | refine K.GL.skip0 150 rfl rfl rfl ?_
                                          | (refine K.GL.want 150 rfl rfl rfl ?_
                                             refine gl_rdloose_con (g := gr) (s := gd.v) Tryz.call23 rfl hkr hs2 rfl (fun a154 c154 => ?_))
                                        first
                                          | refine K.GL.skip 150 rfl rfl rfl rfl ?_
                                          | refine K.GL.skipU 150 rfl rfl rfl rfl ?_
                                          | refine K.GL.skip0 150 rfl rfl rfl ?_
                                          | (refine K.GL.want 150 rfl rfl rfl ?_
                                             refine K.GL.det ((ev_sint_con (l := intl gd.v.list) (m := intl gd.v.list) Tryz.call21 rfl (by rw [intl_length]; omega) (by rw [intl_length]; omega)).cast_bool (b := true) (decide_eq_true rfl)) rfl ?_)
                                        first
                                          | refine K.GL.skip 150 rfl rfl rfl rfl ?_
                                          | refine K.GL.skipU 150 rfl rfl rfl rfl ?_
                                          | refine K.GL.skip0 150 rfl rfl rfl ?_
                                          | (refine K.GL.want 150 rfl rfl rfl ?_
                                             first | refine K.GL.det (K.e_notp rfl) rfl ?_ | refine K.GL.det (K.e_not rfl) rfl ?_)
                                        first | refine K.GL.det (K.e_pick_t rfl rfl) rfl ?_ | refine K.GL.det (K.e_pick_f rfl rfl) rfl ?_
                                        refine K.GL.nil ?_
                                        refine K.GQ.go ?_
                                        refine K.GC.condB rfl (fun h30 => ?_) (fun h30 => ?_)
                                        · first
                                          | exact absurd h30 (by decide)
                                          | try replace h30 := of_decide_eq_true h30
                                            refine K.GC.seq ?_
                                            refine K.GC.region ?_
                                            refine K.GL.det (K.e_assign rfl) rfl ?_
                                            refine K.GL.nil ?_
                                            refine K.GQ.go ?_
                                            refine K.GC.ret ?_
                                            refine K.GQ.block_ret ?_
                                            refine K.GQ.then_ret ?_
                                            refine K.GQ.then_ret ?_
                                            refine K.GQ.block_ret ?_
                                            refine K.GQ.then_ret ?_
                                            refine K.GQ.ret1 Tryz.results3 rfl (fun w hT => ?_)
                                            exact ⟨rfl, hT.sub K.sb⟩
                                        · first
                                          | exact absurd h30 (by decide)
                                          | try replace h30 := of_decide_eq_false h30
                                            refine K.GC.skip ?_
                                            refine K.GQ.block_normal ?_
                                            refine K.GQ.go ?_
                                            refine K.GC.region ?_
                                            refine K.GL.det (K.e_move rfl) rfl ?_
                                            first | refine K.GL.det (K.e_add rfl rfl ⟨by omega, by omega⟩) rfl ?_ | refine K.GL.det (K.e_addw rfl rfl) rfl ?_
                                            refine K.GL.det (K.e_assign rfl) rfl ?_
                                            refine K.GL.nil ?_
                                            exact K.GQ.round ((z.1 + 1, gd, gr) : Nat × DG × RG) ⟨by show z.1 + 1 ≤ _; omega, hkd, hkr, hs2⟩ (by simp only; omega) (by (repeat refine ⟨rfl, ?_⟩); exact trivial) (by first | exact K.sb | (dsimp only; exact K.sb))
                · first
                  | exact absurd h6 (by decide)
                  | try replace h6 := of_decide_eq_false h6
                    refine K.GC.exit ?_
                    refine K.GQ.then_exit ?_
                    refine K.GQ.then_exit ?_
                    refine K.GQ.block_hit ?_
                    refine K.GQ.go ?_
                    refine K.GC.seq ?_
                    refine K.GC.region ?_
                    refine K.GL.det (K.e_move rfl) rfl ?_
                    refine K.GL.det (K.e_move rfl) rfl ?_
                    first | refine K.GL.splitB 159 rfl (fun h31 => ?_) (fun h31 => ?_) | skip
                    all_goals first | exact absurd h31 (by decide) | replace h31 := of_decide_eq_true h31 | replace h31 := of_decide_eq_false h31 | skip
                    all_goals
                      first | (refine K.GL.want 159 rfl rfl rfl ?_; first | refine K.GL.det (K.e_move rfl) rfl ?_) | refine K.GL.skip 159 rfl rfl rfl rfl ?_ | refine K.GL.skipU 159 rfl rfl rfl rfl ?_
                      first | (refine K.GL.want 159 rfl rfl rfl ?_; first | refine K.GL.det (ev_slot_con Tryz.call24 rfl ) rfl ?_) | refine K.GL.skip 159 rfl rfl rfl rfl ?_ | refine K.GL.skipU 159 rfl rfl rfl rfl ?_
                      first | (refine K.GL.want 159 rfl rfl rfl ?_; first | refine K.GL.det (K.e_move rfl) rfl ?_) | refine K.GL.skip 159 rfl rfl rfl rfl ?_ | refine K.GL.skipU 159 rfl rfl rfl rfl ?_
                      first | (refine K.GL.want 159 rfl rfl rfl ?_; first | refine K.GL.det (ev_rslot_con Tryz.call25 rfl ) rfl ?_) | refine K.GL.skip 159 rfl rfl rfl rfl ?_ | refine K.GL.skipU 159 rfl rfl rfl rfl ?_
                      first | (refine K.GL.want 159 rfl rfl rfl ?_; first | refine K.GL.det ((K.e_eq rfl rfl).yes rfl) rfl ?_) | refine K.GL.skip 159 rfl rfl rfl rfl ?_ | refine K.GL.skipU 159 rfl rfl rfl rfl ?_
                      first | refine K.GL.det (K.e_pick_t rfl rfl) rfl ?_ | refine K.GL.det (K.e_pick_f rfl rfl) rfl ?_
                      refine K.GL.det (K.e_assign rfl) rfl ?_
                      refine K.GL.nil ?_
                      refine K.GQ.go ?_
                      refine K.GC.ret ?_
                      refine K.GQ.ret1 Tryz.results3 rfl (fun w hT => ?_)
                      exact ⟨rfl, hT.sub K.sb⟩

set_option maxHeartbeats 1000000 in
set_option maxRecDepth 100000 in
theorem SuperPlays_lifted (os : Os) (started : os.Started) (H : Type) (enc : TypeId × Value → H) :
    ReturnsInHanded {} Tryz.checked os 3 .any (Rows.superPlaysSpec.pre6 enc Tryz.prog Tryz.f3 Rows.superPlaysRow.domain false) (Rows.superPlaysSpec.post enc Tryz.prog Tryz.f3 false true false false) := by
  refine returnsInHanded_of_change_sized (C := Tryz.checked) own started (by kernel_rfl) Tryz.func3
    (ChangeSpec.witness6 (enc := enc) (C := Tryz.checked) false ⟨#[], #[.int .i64 0, .slice none 0 0, .int .i64 0], []⟩ 8 (by kernel_rfl) (by kernel_rfl) (by kernel_rfl) (by kernel_rfl)) ?_
  intro W base args ds gs before hval0 hW _ hsz0 _
  have hval : ∀ (j : Nat) t v, Tryz.f3.params[j]? = some t → args[j]? = some v → Value.okWide Tryz.prog W .any base t v := hval0
  have hsz : (DataW.weightsEach Tryz.prog (Tryz.f3.params.toList ++ []) (ds ++ gs)).all (· ≤ reachBytes) = true := hsz0
  have hW' := hW
  obtain ⟨p, q, hA0, hV, hpe, hfz, hnd⟩ := hW
  have hA : DataW.TrodAll enc Tryz.prog W 0 (fun _ => true) true Tryz.f3.params.toList args.toList ds p := hA0
  obtain ⟨rfl, rfl⟩ := trodVars_none hV
  rw [Tryz.params3] at hA hval hsz
  obtain ⟨v0, vs0, d0, ds0, p0, q0, hargs, rfl, rfl, h0, r0⟩ := trodAll_cons hA
  obtain ⟨v1, vs1, d1, ds1, p1, q1, rfl, rfl, rfl, h1, r1⟩ := trodAll_cons r0
  obtain ⟨v2, vs2, d2, ds2, p2, q2, rfl, rfl, rfl, h2, r2⟩ := trodAll_cons r1
  obtain ⟨rfl, rfl, rfl⟩ := trodAll_nil r2
  obtain rfl : args = #[v0, v1, v2] := by cases args; simp_all
  clear hA0 hval0 hsz0 hA hargs
  obtain ⟨y, rfl, rfl, rfl, wy⟩ := open_int Tryz.underlying3 (hval 0 3 _ rfl rfl) h0
  obtain ⟨az, nnz, cz, rfl⟩ := okWide_slice Tryz.underlying22 (hval 1 22 _ rfl rfl)
  obtain ⟨fuelz, hfz⟩ := h1
  obtain ⟨aaz, ccz, lz, hcsz, hnz, hcz, hoz, hGz⟩ := open_row (e := encPX) Tryz.underlying22 (by kernel_rfl) (open_opx) hfz
  have hcsz' : Value.slice az nnz cz = .slice aaz lz.length ccz := by simpa [Value.cells] using hcsz
  simp only [Value.slice.injEq] at hcsz'
  obtain ⟨rfl, rfl, rfl⟩ := hcsz'
  unfold maxLen at hnz
  obtain ⟨x, rfl, rfl, rfl, wx⟩ := open_int Tryz.underlying2 (hval 2 2 _ rfl rfl) h2
  have core : Calls Tryz.prog 3 #[.int .i64 y, .slice az lz.length cz, .int .i64 x] W fun e W' => e = .returned (.bool true) ∧ Tr W [wildR] W' [wildR] := plays_con hnz hGz disj1W ok1W
  exact core.mono fun e W' ⟨he, hT⟩ => ⟨_, he, law_post (tb := 4) hW' rfl rfl Tryz.underlying4 (fun _ => rfl) laidOut (by kernel_rfl) (Tr.belowW hT)⟩
theorem SuperPlays_holds : Rows.SuperPlaysSaid :=
  OpenClaim.holds_of_wide 3 Tryz.f3 rfl rfl rfl rfl rfl rfl rfl ⟨rfl, rfl, rfl, rfl, rfl⟩ rfl rfl rfl rfl rfl (by kernel_rfl) Tryz.func3 (by kernel_rfl)
    (of_decide_eq_true (by kernel_rfl)) (by unfold Func.isWrapper; first | (rw [if_pos (by decide +kernel)]; kernel_rfl) | (rw [if_neg (by decide +kernel)]; exact ⟨rfl, rfl⟩))
    (fun os started H enc _ => SuperPlays_lifted os started H enc)

end Go.Proofs.YtdbedajaapamhaaGreat
