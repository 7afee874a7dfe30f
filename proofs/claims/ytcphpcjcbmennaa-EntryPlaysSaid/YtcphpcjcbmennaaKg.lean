/- Calls of function values, slices that are nil, a result in a cell beside another one; without conditions. -/
import Derived.Test.YtcphpcjcbmennaaKf
import Derived.Sort.Grow
import Derived.Deep.Draws
import Derived.Laws.Cover3
set_option linter.unusedVariables false
set_option linter.unusedSimpArgs false
set_option linter.unnecessarySimpa false
set_option linter.deprecated false
namespace Go.K
open Go
set_option linter.unusedVariables false
section
variable {P : Program} {ops : Array Oper} {Q : Exit → Act → World → Prop} {N : Nat} {U : Env} {w0 : World} {L0 L F : List Res} {ty : TypeId} {rest : List Oper} {pos : String} {after : Array Edge}
theorem run_callV {ρ : Operand → Value} {w : World} {x : Operand} {g : FuncId} {cap : List Value} {xs : List Operand} {vs : List Value} {tys : Array TypeId} {dst : Option Tmp} {guard : Option (Nat × Bool)} (hf : ∀ args w, (callFunc g args).run P w = .ok (.enter g args) w) (hx : xs.map ρ = vs) (hρ : ρ x = .func (.func g) #[] cap.toArray) :
    (execOp ρ ⟨dst, .call ⟨.value x, xs.toArray, tys⟩, ty, pos, after, guard⟩).run P w = .ok (.enter g (vs ++ cap).toArray) w := by
  subst hx
  simp [execOp, go_sem, hρ, hf]
theorem e_callV {x : Operand} {g : FuncId} {cap : List Value} {xs : List Operand} {vs : List Value} {tys : Array TypeId} {Pv : Value → Prop} {R : Value → Res} (hf : ∀ args w, (callFunc g args).run P w = .ok (.enter g args) w) (hv : opv U x = some (.func (.func g) #[] cap.toArray)) (hx : opvs U xs = some vs)
    (h : ∀ w, Tr w0 L0 w L → Calls P g (vs ++ cap).toArray w fun e w' => ∃ v, e = .returned v ∧ Pv v ∧ Tr w [] w' [R v]) : Ev P U w0 L0 L (.call ⟨.value x, xs.toArray, tys⟩) ty Pv R := by
  intro ρ w dst pos after guard hρ hT
  rw [run_callV hf (opvs_spec hρ hx) (hρ x _ hv)]
  exact ⟨rfl, h w hT⟩
theorem e_callV1 {x : Operand} {g : FuncId} {cap : List Value} {xs : List Operand} {vs : List Value} {tys : Array TypeId} {u : Value} (hf : ∀ args w, (callFunc g args).run P w = .ok (.enter g args) w) (hv : opv U x = some (.func (.func g) #[] cap.toArray)) (hx : opvs U xs = some vs)
    (h : ∀ w, Tr w0 L0 w L → Calls P g (vs ++ cap).toArray w fun e w' => e = .returned u ∧ Tr w [] w' []) : Ev P U w0 L0 L (.call ⟨.value x, xs.toArray, tys⟩) ty (Is u) No :=
  e_callV hf hv hx fun w hT => (h w hT).mono fun e w' ⟨he, ht⟩ => ⟨u, he, rfl, by
    exact ⟨ht.os, ht.tape, ht.output, fun hn => ⟨(ht.ahead hn).1, fun r hr => by simp [No] at hr; subst hr; rfl⟩, ht.size, ht.frame, Disj.one _, fun r hr => by simp [No] at hr; subst hr; trivial, fun r hr b hb => by simp [No] at hr; subst hr; exact hb.elim⟩⟩
theorem e_makeFunc {g : FuncId} {xs : List Operand} {vs : List Value} (hx : opvs U xs = some vs) : Ev P U w0 L0 L (.makeFunc (.func g) #[] xs.toArray) ty (Is (.func (.func g) #[] vs.toArray)) No :=
  .val fun ρ w dst pos after guard hρ hT => by
    have h := opvs_spec hρ hx
    subst h
    simp [execOp, Instr.makeFunc, go_sem]
end
theorem grown_of {v w' : World} (h : Tr v [] w' []) : ∃ q os', w' = Sort.grow (v.drewN q) os' := by
  refine ⟨w'.drawn - v.drawn, w'.heap.extract v.heap.size w'.heap.size, ?_⟩
  have h1 : w'.heap = v.heap ++ w'.heap.extract v.heap.size w'.heap.size := by
    apply Array.ext_getElem?
    intro i
    by_cases hi : i < v.heap.size
    · rw [Array.getElem?_append_left hi]; exact h.old i hi
    · rw [Array.getElem?_append_right (by omega), Array.getElem?_extract]
      by_cases h2 : i < w'.heap.size
      · rw [if_pos (by omega)]; congr 1; omega
      · rw [if_neg (by omega), Array.getElem?_eq_none (by omega)]
  have h2 := (h.ahead (fun _ h => by simp at h)).1
  obtain ⟨hp, tp, dr, os, out⟩ := w'
  have e1 := h.os
  have e2 := h.tape
  have e3 := h.output
  simp only at e1 e2 e3 h1 h2 ⊢
  unfold Sort.grow World.drewN
  simp only [World.mk.injEq]
  exact ⟨h1, e2, by omega, e1, e3⟩
section
variable {P : Program} {ops : Array Oper} {Q : Exit → Act → World → Prop} {N : Nat} {U : Env} {w0 : World} {L0 L F : List Res} {ty : TypeId} {rest : List Oper} {pos : String} {after : Array Edge}
theorem e_eqSl {T E Y : TypeId} {x y : Operand} {a : Option Addr} {n c : Nat} (hu : P.underlying T = some (.slice E)) (hx : opv U x = some (.slice a n c)) (hy : opv U y = some (.slice none 0 0)) : Ev P U w0 L0 L (.binOp .eql T x y Y) ty (Is (.bool a.isNone)) No :=
  .val fun ρ w dst pos after guard hρ hT => by
    have := run_equal_slice_nil (P := P) w T E a n c hu
    simp [execOp, hρ _ _ hx, hρ _ _ hy, go_sem, binOp, this]
theorem e_append0 {T E : TypeId} {x y : Operand} {z : List Value} {bytes : Nat} (hm : mkOf P T = some (E, z, bytes)) {a a2 : Option Addr} {n c c2 : Nat} (hx : opv U x = some (.slice a n c)) (hnc : n ≤ c) (hy : opv U y = some (.slice a2 0 c2)) :
    Ev P U w0 L0 L (.call ⟨.builtin .append, #[x, y], #[T, T]⟩) ty (Is (.slice a n c)) No :=
  .val fun ρ w dst pos after guard hρ hT => by
    obtain ⟨it, zv, h1, h2, h3, h4, h5, h6, h7⟩ := mkOf_spec hm
    have hz : (Builtin.append_ #[T, T] ty #[.slice a n c, .slice a2 0 c2]).run P w = .ok (.slice a n c) w := by
      cases a <;> cases a2 <;> simp [Builtin.append_, run_underlying h1, sizeOf, typeInfo, h2, Builtin.lenOf, Builtin.firstCells, loadCells, storeCells, hnc, go_sem]
    rw [exec_append, hρ _ _ hx, hρ _ _ hy, hz]
    rfl
theorem GQ.ret_ct {fn : Func} {R : Ending → World → Prop} {t T : Nat} {t2 : Tmp} {v2 : Value} {n b off : Nat} {E : TypeId} {cs vs : List Value} (hr : fn.results = #[.cell t T, .tmp t2]) (hA : ∀ w, (isAgg T).run P w = .ok true w) (hS : ∀ w, (sizeOf T).run P w = .ok n w)
    (hv : lk U t = some (.pointer (some ⟨b, off, none⟩))) (h2 : lk U t2 = some v2) [hc : HasC L b E cs] (ht : takeO cs off n = some vs) (h : ∀ w, Tr w0 L0 w L → R (.returned (.tuple [.agg vs.toArray, v2].toArray)) w) : GQ (bodyPost P fn R) .ret N U w0 L0 L := fun a w hE hT => by
  refine bodyPost_ret (v := .tuple #[.agg vs.toArray, v2]) ?_ hE.defers (h w hT)
  have h1 := hE.eq t _ hv
  have e2 := hE.eq t2 v2 h2
  simp only [Act.eval] at h1 e2
  obtain ⟨h2, h3⟩ := takeO_spec ht
  have hl : vs.length = n := by rw [h3]; simp; omega
  subst hl
  have := run_cells (P := P) (Tr.at (b := b) hT) h2 h3
  unfold loadCells at this
  simp only [Array.getD_eq_getD_getElem?] at h1 e2
  simp [results, hr, go_sem, h1, e2, hA, hS, this]
end
theorem eraseIdx_mid {α : Type} (A B : List α) (r : α) : (A ++ r :: B).eraseIdx A.length = A ++ B := by
  induction A with
  | nil => rfl
  | cons a A ih => simp [ih]
theorem Sub.unrot (r : Res) (A : List Res) : Sub (r :: A) (A ++ [r]) := by
  have := Sub.front (L := A ++ [r]) (i := A.length) (r := r) (by simp)
  rw [eraseIdx_mid, List.append_nil] at this
  exact this
theorem Tr.pull {w0 w : World} {L0 A B F : List Res} {r : Res} (h : Tr w0 L0 w (all (A ++ r :: B) :: F)) : Tr w0 L0 w (r :: all (A ++ B) :: F) := by
  have h1 : Tr w0 L0 w ((A ++ r :: B) ++ F) := h.opened
  have h2 : Tr w0 L0 w (r :: ((A ++ B) ++ F)) := by
    have := h1.sub (Sub.front (i := A.length) (r := r) (by rw [List.append_assoc, List.getElem?_append_right (Nat.le_refl _)]; simp))
    rw [show (A ++ r :: B) ++ F = A ++ r :: (B ++ F) by simp, eraseIdx_mid] at this
    rw [List.append_assoc]; exact this
  have h3 : Tr w0 L0 w ((A ++ B) ++ (F ++ [r])) := by
    rw [← List.append_assoc]; exact h2.sub (Sub.rot _ _)
  have h4 : Tr w0 L0 w ((all (A ++ B) :: F) ++ [r]) := h3.closed
  exact h4.sub (Sub.unrot _ _)
theorem Tr.push {w0 w : World} {L0 A B F : List Res} {r : Res} (h : Tr w0 L0 w (r :: all (A ++ B) :: F)) : Tr w0 L0 w (all (A ++ r :: B) :: F) := by
  have h1 : Tr w0 L0 w (all (A ++ B) :: (F ++ [r])) := h.sub (Sub.rot r (all (A ++ B) :: F))
  have h2 : Tr w0 L0 w ((A ++ B) ++ (F ++ [r])) := h1.opened
  have h3 : Tr w0 L0 w (r :: ((A ++ B) ++ F)) := by
    rw [← List.append_assoc] at h2; exact h2.sub (Sub.unrot _ _)
  have h4 : Tr w0 L0 w ((A ++ r :: B) ++ F) := by
    have hs : Sub ((A ++ r :: B) ++ F) (r :: ((A ++ B) ++ F)) := by
      have := Sub.back (L := (A ++ r :: B) ++ F) (i := A.length) (r := r) (by simp)
      rw [show (A ++ r :: B) ++ F = A ++ r :: (B ++ F) by simp, eraseIdx_mid] at this
      rw [show (A ++ r :: (B ++ F)).set A.length r = A ++ r :: (B ++ F) by simp] at this
      rw [show (A ++ r :: B) ++ F = A ++ r :: (B ++ F) by simp, List.append_assoc]; exact this
    exact h3.sub hs
  exact h4.closed
theorem GC.pull {P : Program} {c : Code} {N : Nat} {Q : Exit → Act → World → Prop} {U : Env} {w0 : World} {L0 A B F : List Res} {r : Res} (h : GC P c Q N U w0 L0 (r :: all (A ++ B) :: F)) : GC P c Q N U w0 L0 (all (A ++ r :: B) :: F) := fun a w hE hT => h a w hE hT.pull

/-- A row, with what stands behind it named. -/
def rowj (a : Option Addr) (c k : Nat) (E : TypeId) (xs junk : List Value) : Res where
  fp b := ∃ p, a = some p ∧ b = p.block
  ok h := (a = none → xs = [] ∧ junk = [] ∧ c = 0) ∧ ∀ p, a = some p → p = ⟨p.block, 0, none⟩ ∧ h[p.block]? = some (.cells (xs ++ junk).toArray E (0, 0)) ∧ (xs ++ junk).length = c * k
  loc h h' e w := ⟨w.1, fun p hp => ⟨(w.2 p hp).1, by rw [e p.block ⟨p, hp, rfl⟩]; exact (w.2 p hp).2.1, (w.2 p hp).2.2⟩⟩
  ins h k c e := by
    obtain ⟨p, hp, rfl⟩ := e
    exact (Array.getElem?_eq_some_iff.1 (k.2 p hp).2.1).1
theorem Precise.rowj (a : Option Addr) (c k : Nat) (E : TypeId) (xs junk : List Value) : Precise (rowj a c k E xs junk) := fun h h' k1 k2 b ⟨p, hp, hb⟩ => by
  subst hb
  rw [(k1.2 p hp).2.1, (k2.2 p hp).2.1]
theorem Tr.row_j {w0 w : World} {L0 F : List Res} {a : Option Addr} {c k : Nat} {E : TypeId} {xs : List Value} (h : Tr w0 L0 w (row a c k E xs :: F)) : ∃ junk, Tr w0 L0 w (rowj a c k E xs junk :: F) := by
  have hok := h.ok _ List.mem_cons_self
  have key : ∃ junk, (rowj a c k E xs junk).ok w.heap := by
    cases a with
    | none => exact ⟨[], fun _ => ⟨(hok.1 rfl).1, rfl, (hok.1 rfl).2⟩, fun p hp => by simp at hp⟩
    | some p =>
      obtain ⟨hp, junk, h1, h2⟩ := hok.2 p rfl
      exact ⟨junk, fun h => by simp at h, fun q hq => by simp only [Option.some.injEq] at hq; subst hq; exact ⟨hp, h1, h2⟩⟩
  obtain ⟨junk, hj⟩ := key
  refine ⟨junk, h.os, h.tape, h.output, fun hn => ⟨(h.ahead hn).1, fun r hr => by
    rcases List.mem_cons.1 hr with rfl | h2
    · rfl
    · exact (h.ahead hn).2 r (List.mem_cons_of_mem _ h2)⟩, h.size, h.frame, h.disj.tail.cons fun s hs b hb hb2 => h.disj.head hs b hb hb2, fun r hr => ?_, fun r hr b hb => ?_⟩
  · rcases List.mem_cons.1 hr with rfl | h2
    · exact hj
    · exact h.ok r (List.mem_cons_of_mem _ h2)
  · rcases List.mem_cons.1 hr with rfl | h2
    · exact h.new _ List.mem_cons_self b hb
    · exact h.new r (List.mem_cons_of_mem _ h2) b hb
theorem rowj_sl {a : Option Addr} {c k n : Nat} {E : TypeId} {xs junk : List Value} {w : World} (h1 : (rowj a c k E xs junk).ok w.heap) (hk : 0 < k) (hl : xs.length = n * k) : Sl w k a n xs := by
  cases a with
  | none =>
    obtain ⟨rfl, _, rfl⟩ := h1.1 rfl
    have : n = 0 := by
      apply Classical.byContradiction
      intro hn
      have : 0 < n * k := Nat.mul_pos (Nat.pos_of_ne_zero hn) hk
      rw [List.length_nil] at hl
      omega
    subst this
    exact Sl.nil w k
  | some p =>
    obtain ⟨hp, h2, h3⟩ := h1.2 p rfl
    have := Sl.pre (k := k) (n := n) h2 hl
    rw [hp]
    exact this
end Go.K
