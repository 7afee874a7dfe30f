/- Nothing; what is added behind; what stands behind a block under other names; without conditions. -/
import Derived.Test.YtcphpcjcbmennaaKg
import Derived.Laws.StructEq
set_option linter.unusedVariables false
set_option linter.unusedSimpArgs false
set_option linter.unnecessarySimpa false
set_option linter.deprecated false
namespace Go.K
open Go
set_option linter.unusedVariables false
theorem Precise.emp : Precise emp := fun _ _ _ _ _ h => h.elim
theorem Tr.emp {w0 w : World} {L0 L : List Res} (hT : Tr w0 L0 w L) : Tr w0 L0 w (Go.K.emp :: L) :=
  ⟨hT.os, hT.tape, hT.output, fun hn => ⟨(hT.ahead hn).1, fun r hr => by
    rcases List.mem_cons.1 hr with rfl | h2
    · rfl
    · exact (hT.ahead hn).2 r h2⟩, hT.size, hT.frame, hT.disj.cons (fun s _ b hb _ => hb.elim), fun r hr => by
    rcases List.mem_cons.1 hr with rfl | h2
    · exact trivial
    · exact hT.ok r h2, fun r hr b hb => by
    rcases List.mem_cons.1 hr with rfl | h2
    · exact hb.elim
    · exact hT.new r h2 b hb⟩
theorem Tr.all0 {w0 w : World} {L0 L : List Res} (hT : Tr w0 L0 w L) : Tr w0 L0 w (Go.K.all [] :: L) := Tr.closed (l := []) (F := L) hT
theorem Tr.snoc {w0 w : World} {L0 A F : List Res} {r : Res} (h : Tr w0 L0 w (r :: all A :: F)) : Tr w0 L0 w (all (A ++ [r]) :: F) := by
  have := Tr.push (A := A) (B := []) (r := r) (F := F) (h := by rw [List.append_nil]; exact h)
  exact this
section
variable {P : Program} {ops : Array Oper} {Q : Exit → Act → World → Prop} {N : Nat} {U : Env} {w0 : World} {L0 L A F : List Res} {r : Res} {e : Exit}
theorem GQ.res {L' : List Res} (h : GQ Q e N U w0 L0 L') (hs : Sub L' L) : GQ Q e N U w0 L0 L := fun a w hE hT => h a w hE (hT.sub hs)
theorem GQ.snoc (h : GQ Q e N U w0 L0 (all (A ++ [r]) :: F)) : GQ Q e N U w0 L0 (r :: all A :: F) := fun a w hE hT => h a w hE hT.snoc
theorem GL.all0 {ol : List Oper} (h : GL P ops Q ol N U w0 L0 (Go.K.all [] :: L)) : GL P ops Q ol N U w0 L0 L := fun a w hE hT => h a w hE hT.all0
end
/-! ### Are two structs alike? -/
section
variable {P : Program} {w : World} {d : Nat} {xs ys : List Value} {nm tg pk : String} {T : TypeId} {off bo : Nat} {em : Bool} {fs : List Field}
theorem eqF_int {k : IntKind} {a b : Int} (hn : nm ≠ "_") (hA : ∀ w, (isAgg T).run P w = .ok false w) (hu : P.underlying T = some (.int k)) (hx : xs[off]? = some (.int k a)) (hy : ys[off]? = some (.int k b)) :
    (Op.eqFields (d + 1) xs.toArray ys.toArray (⟨nm, T, off, em, tg, pk, bo⟩ :: fs)).run P w = if a = b then (Op.eqFields (d + 1) xs.toArray ys.toArray fs).run P w else .ok false w := by
  simp only [Op.eqFields, if_pos hn, part, Sem.run_bind, hA, Result.andThen_ok, Bool.false_eq_true, if_false, List.getElem?_toArray, hx, hy, Sem.run_pure, run_equalIn_int w d T k k a b hu]
  by_cases h : a = b
  · simp [h]
  · rw [if_neg h, if_pos (by simpa using h)]; rfl
theorem eqF_bool {a b : Bool} (hn : nm ≠ "_") (hA : ∀ w, (isAgg T).run P w = .ok false w) (hu : P.underlying T = some .bool) (hx : xs[off]? = some (.bool a)) (hy : ys[off]? = some (.bool b)) :
    (Op.eqFields (d + 1) xs.toArray ys.toArray (⟨nm, T, off, em, tg, pk, bo⟩ :: fs)).run P w = if a = b then (Op.eqFields (d + 1) xs.toArray ys.toArray fs).run P w else .ok false w := by
  simp only [Op.eqFields, if_pos hn, part, Sem.run_bind, hA, Result.andThen_ok, Bool.false_eq_true, if_false, List.getElem?_toArray, hx, hy, Sem.run_pure, run_equalIn_bool w d a b hu]
  by_cases h : a = b
  · simp [h]
  · rw [if_neg h, if_pos (by simpa using h)]; rfl
end
section
variable {P : Program} {U : Env} {w0 : World} {L0 L : List Res} {ty : TypeId} {T Y : TypeId} {x y : Operand} {xs ys : List Value} {p : Prop} [Decidable p]
theorem e_eqStruct (hg : P.eqGuardType P.depth T = false) (hx : opv U x = some (.agg xs.toArray)) (hy : opv U y = some (.agg ys.toArray)) (h : ∀ w, (Op.equalIn 10000 T (.agg xs.toArray) (.agg ys.toArray)).run P w = .ok (decide p) w) : Ev P U w0 L0 L (.binOp .eql T x y Y) ty (Is (.bool (decide p))) No :=
  .val fun ρ w dst pos after guard hρ hT => by
    simp [execOp, hρ _ _ hx, hρ _ _ hy, go_sem, run_eql_struct, run_eqGuard_agg w .eql T x y xs.toArray ys.toArray hg, h]
theorem e_neStruct (hg : P.eqGuardType P.depth T = false) (hx : opv U x = some (.agg xs.toArray)) (hy : opv U y = some (.agg ys.toArray)) (h : ∀ w, (Op.equalIn 10000 T (.agg xs.toArray) (.agg ys.toArray)).run P w = .ok (decide p) w) : Ev P U w0 L0 L (.binOp .neq T x y Y) ty (Is (.bool (decide ¬ p))) No :=
  .val fun ρ w dst pos after guard hρ hT => by
    simp [execOp, hρ _ _ hx, hρ _ _ hy, go_sem, run_neq_struct, run_eqGuard_agg w .neq T x y xs.toArray ys.toArray hg, h]
end
end Go.K
