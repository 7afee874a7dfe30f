/- What single operations give, calls, loops, slices, and the step from the contract of a law to its row; without conditions. -/
import Derived.Test.YtcphpcjcbmennaaKa
import Derived.ProofKit
import Derived.OpenShut
set_option linter.unusedVariables false
set_option linter.unusedSimpArgs false
set_option linter.unnecessarySimpa false
set_option linter.deprecated false
namespace Go.K
open Go
set_option linter.unusedVariables false
/-! ### Lists that are reckoned whole -/
def spliceO : List Value → Nat → List Value → Option (List Value)
  | c, 0, [] => some c
  | [], 0, _ :: _ => none
  | _ :: c, 0, v :: vs => match spliceO c 0 vs with
    | some r => some (v :: r)
    | none => none
  | [], _ + 1, _ => none
  | x :: c, n + 1, vs => match spliceO c n vs with
    | some r => some (x :: r)
    | none => none
theorem spliceO_spec : ∀ {c : List Value} {n : Nat} {vs r : List Value}, spliceO c n vs = some r → n + vs.length ≤ c.length ∧ r = c.take n ++ vs ++ c.drop (n + vs.length)
  | c, 0, [], r, h => by simp only [spliceO, Option.some.injEq] at h; subst h; cases c <;> simp
  | [], 0, v :: vs, r, h => by simp [spliceO] at h
  | x :: c, 0, v :: vs, r, h => by
    simp only [spliceO] at h
    split at h
    · rename_i r' hr
      simp only [Option.some.injEq] at h
      obtain ⟨h1, h2⟩ := spliceO_spec hr
      subst h h2
      simp at h1 ⊢
      omega
    · simp at h
  | [], n + 1, vs, r, h => by cases vs <;> simp [spliceO] at h
  | x :: c, n + 1, vs, r, h => by
    have h' : (match spliceO c n vs with | some r => some (x :: r) | none => none) = some r := by cases vs <;> simpa only [spliceO] using h
    split at h'
    · rename_i r' hr
      simp only [Option.some.injEq] at h'
      obtain ⟨h1, h2⟩ := spliceO_spec hr
      subst h' h2
      simp [Nat.add_right_comm n 1] 
      omega
    · simp at h'
def takeO : List Value → Nat → Nat → Option (List Value)
  | _, 0, 0 => some []
  | [], 0, _ + 1 => none
  | x :: c, 0, n + 1 => match takeO c 0 n with
    | some r => some (x :: r)
    | none => none
  | [], _ + 1, _ => none
  | _ :: c, o + 1, n => takeO c o n
theorem takeO_spec : ∀ {c : List Value} {o n : Nat} {r : List Value}, takeO c o n = some r → o + n ≤ c.length ∧ r = (c.drop o).take n
  | c, 0, 0, r, h => by cases c <;> simp only [takeO, Option.some.injEq] at h <;> subst h <;> simp
  | [], 0, n + 1, r, h => by simp [takeO] at h
  | x :: c, 0, n + 1, r, h => by
    simp only [takeO] at h
    split at h
    · rename_i r' hr
      simp only [Option.some.injEq] at h
      obtain ⟨h1, h2⟩ := takeO_spec hr
      subst h h2
      simp at h1 ⊢
      omega
    · simp at h
  | [], o + 1, n, r, h => by cases n <;> simp [takeO] at h
  | x :: c, o + 1, n, r, h => by
    have h' : takeO c o n = some r := by cases n <;> simpa only [takeO] using h
    obtain ⟨h1, h2⟩ := takeO_spec h'
    subst h2
    simp
    omega
/-- A value's cells. -/
def cellsO : Value → Option (List Value)
  | .agg ⟨cs⟩ => some cs
  | .bool b => some [.bool b]
  | .int k n => some [.int k n]
  | .string s => some [.string s]
  | .pointer a => some [.pointer a]
  | .slice a n c => some [.slice a n c]
  | .map r => some [.map r]
  | .func f x c => some [.func f x c]
  | .nilFunc => some [.nilFunc]
  | .iface t v => some [.iface t v]
  | .nilIface => some [.nilIface]
  | _ => none
theorem cellsO_spec {v : Value} {cs : List Value} (h : cellsO v = some cs) : v.cells = cs.toArray := by
  cases v <;> simp only [cellsO, Option.some.injEq, reduceCtorEq] at h <;> subst h <;> rfl
/-! ### A block of cells -/
abbrev cl (b : Nat) (T : TypeId) (cs : List Value) : Res := pt b (.cells cs.toArray T (0, 0))
class HasC (L : List Res) (b : Nat) (T : outParam TypeId) (cs : outParam (List Value)) : Prop where
  mem : cl b T cs ∈ L
instance HasC.tail {L : List Res} {r : Res} {b : Nat} {T : TypeId} {cs : List Value} [h : HasC L b T cs] : HasC (r :: L) b T cs := ⟨List.mem_cons_of_mem _ h.mem⟩
instance HasC.head {L : List Res} {b : Nat} {T : TypeId} {cs : List Value} : HasC (cl b T cs :: L) b T cs := ⟨List.mem_cons_self⟩
/-- One block has other cells; all else stands. -/
class SetC (L : List Res) (b : Nat) (T : outParam TypeId) (cs : outParam (List Value)) (cs' : List Value) (L' : outParam (List Res)) : Prop where
  at_ : ∃ i : Nat, L[i]? = some (cl b T cs) ∧ L' = L.set i (cl b T cs')
instance SetC.tail {L L' : List Res} {r : Res} {b : Nat} {T : TypeId} {cs cs' : List Value} [h : SetC L b T cs cs' L'] : SetC (r :: L) b T cs cs' (r :: L') := ⟨by
  obtain ⟨i, h1, h2⟩ := h.at_
  exact ⟨i + 1, by simpa using h1, by simp [h2]⟩⟩
instance SetC.head {L : List Res} {b : Nat} {T : TypeId} {cs cs' : List Value} : SetC (cl b T cs :: L) b T cs cs' (cl b T cs' :: L) := ⟨0, by simp⟩
theorem Sub.front {L : List Res} {i : Nat} {r : Res} (h : L[i]? = some r) : Sub (r :: L.eraseIdx i) L := by
  have hi := (List.getElem?_eq_some_iff.1 h).1
  refine ⟨fun j => if j = 0 then i else if j ≤ i then j - 1 else j, fun a b e => ?_, fun j s hs => ?_⟩
  · simp only at e
    repeat' split at e
    all_goals omega
  · cases j with
    | zero => simp at hs; subst hs; simpa using h
    | succ j =>
      simp only [List.getElem?_cons_succ, List.getElem?_eraseIdx] at hs
      show L[if j + 1 = 0 then i else if j + 1 ≤ i then j + 1 - 1 else j + 1]? = some s
      rw [if_neg (by omega)]
      by_cases hj : j < i
      · rw [if_pos hj] at hs; rw [if_pos (by omega)]; simpa using hs
      · rw [if_neg hj] at hs; rw [if_neg (by omega)]; exact hs
theorem Sub.back {L : List Res} {i : Nat} {r : Res} (hi : i < L.length) : Sub (L.set i r) (r :: L.eraseIdx i) := by
  refine ⟨fun j => if j = i then 0 else if j < i then j + 1 else j, fun a b e => ?_, fun j s hs => ?_⟩
  · simp only at e
    repeat' split at e
    all_goals omega
  · simp only [List.getElem?_set] at hs
    by_cases hj : i = j
    · subst hj
      rw [if_pos rfl, if_pos hi] at hs
      simpa using hs
    · rw [if_neg hj] at hs
      show (r :: L.eraseIdx i)[if j = i then 0 else if j < i then j + 1 else j]? = some s
      rw [if_neg (Ne.symm hj)]
      by_cases hj2 : j < i
      · rw [if_pos hj2]; simp only [List.getElem?_cons_succ, List.getElem?_eraseIdx, if_pos hj2]; exact hs
      · rw [if_neg hj2]
        obtain ⟨j, rfl⟩ : ∃ q, j = q + 1 := ⟨j - 1, by omega⟩
        simp only [List.getElem?_cons_succ, List.getElem?_eraseIdx, if_neg (show ¬ j < i by omega)]; exact hs
theorem Tr.put {w0 w w' : World} {L0 L : List Res} {i : Nat} {r r' : Res} (h : Tr w0 L0 w L) (hi : L[i]? = some r) (hc : Tr w [r] w' [r']) : Tr w0 L0 w' (L.set i r') :=
  (h.call (l := [r]) (Sub.front hi) hc).sub (Sub.back (List.getElem?_eq_some_iff.1 hi).1)
theorem Tr.setRow {w0 w : World} {L0 L L' : List Res} {b : Nat} {T : TypeId} {cs cs' : List Value} (h : Tr w0 L0 w L) [hs : SetC L b T cs cs' L'] : Tr w0 L0 (w.setRow b cs'.toArray) L' := by
  obtain ⟨i, h1, h2⟩ := hs.at_
  have hb : w.heap[b]? = some (.cells cs.toArray T (0, 0)) := h.ok _ (List.mem_of_getElem? h1)
  subst h2
  exact h.put h1 (.set rfl rfl rfl (Nat.le_refl _) (setRow_heap w b _ _ T _ hb) (by simp [World.setRow]) fun k hk => setRow_other w b k _ hk)
theorem Tr.at {w0 w : World} {L0 L : List Res} {b : Nat} {T : TypeId} {cs : List Value} (h : Tr w0 L0 w L) [hs : HasC L b T cs] : w.heap[b]? = some (.cells cs.toArray T (0, 0)) := h.ok _ hs.mem
theorem cell_of_block {w : World} {b off : Nat} {T : TypeId} {cs : List Value} (h : w.heap[b]? = some (.cells cs.toArray T (0, 0))) : w.cell? ⟨b, off, none⟩ = cs[off]? := by
  simp [World.cell?, h]
theorem frozen_of_block {w : World} {b off : Nat} {T : TypeId} {cs : List Value} (h : w.heap[b]? = some (.cells cs.toArray T (0, 0))) : w.frozen? ⟨b, off, none⟩ = false := by
  simp [World.frozen?, h]
theorem add_addr (b off n : Nat) : (⟨b, off, none⟩ : Addr).add n = ⟨b, off + n, none⟩ := by
  unfold Addr.add; split <;> simp_all
/-! ### Building -/
def layout (P : Program) (t : TypeId) : Option (List Value × List (Nat × Nat)) :=
  match P.info? t, P.underlying t with
  | some it, some (.array n e) =>
    match it.zero, P.info? e with
    | some z, some ie => some (z.cells.toList, (List.range n).map fun i => (i * ie.size, ie.size))
    | _, _ => none
  | some it, some (.struct fields) =>
    match it.zero, fields.toList.mapM (fun f => (P.info? f.type).map fun i => (f.offset, i.size)) with
    | some z, some places => some (z.cells.toList, places)
    | _, _ => none
  | _, _ => none
def buildO (U : Env) (pl : List (Nat × Nat)) : List Value → List (Nat × Operand) → Option (List Value)
  | z, [] => some z
  | z, (i, x) :: rest => match opv U x with
    | some v => match cellsO v with
      | some vs => match pl[i]? with
        | some p => bif Nat.beq vs.length p.2 then (match spliceO z p.1 vs with
          | some z' => buildO U pl z' rest
          | none => none) else none
        | none => none
      | none => none
    | none => none
theorem foldl_set (off : Nat) : ∀ (vs : List Value) (k : Nat) (c : List Value), off + k + vs.length ≤ c.length →
    (vs.zipIdx k).foldl (fun (cs : Array Value) (p : Value × Nat) => cs.setIfInBounds (off + p.2) p.1) c.toArray = (c.take (off + k) ++ vs ++ c.drop (off + k + vs.length)).toArray
  | [], k, c, _ => by simp
  | v :: vs, k, c, h => by
    simp only [List.length_cons] at h
    have ih := foldl_set off vs (k + 1) (c.set (off + k) v) (by simp; omega)
    simp only [List.zipIdx_cons, List.foldl_cons, List.setIfInBounds_toArray]
    rw [ih]
    congr 1
    have h1 : (c.set (off + k) v).take (off + (k + 1)) = c.take (off + k) ++ [v] := by
      rw [← Nat.add_assoc, List.take_add_one, List.take_set_of_le (by omega)]
      simp [show off + k < c.length by omega]
    rw [h1, List.drop_set_of_lt (by omega)]
    simp [Nat.add_assoc, Nat.add_comm 1]
theorem fill_buildO {U : Env} {pl : List (Nat × Nat)} {ρ : Operand → Value} (hρ : ∀ x v, opv U x = some v → ρ x = v) (place : Nat → Option (Nat × Nat)) (hp : ∀ i p, pl[i]? = some p → place i = some p) : ∀ {z r : List Value} {parts : List (Nat × Operand)}, buildO U pl z parts = some r → Instr.fill place z.toArray (parts.map fun (i, x) => (i, ρ x)) = some r.toArray
  | z, r, [], h => by simp only [buildO, Option.some.injEq] at h; subst h; rfl
  | z, r, (i, x) :: rest, h => by
    simp only [buildO] at h
    split at h
    · rename_i v hv
      split at h
      · rename_i vs hvs
        split at h
        · rename_i p hpi
          cases hb : Nat.beq vs.length p.2 with
          | false => rw [hb] at h; simp at h
          | true =>
            rw [hb] at h
            have hlen := Nat.eq_of_beq_eq_true hb
            simp only [cond_true] at h
            split at h
            · rename_i z' hz'
              have ih := fill_buildO hρ place hp h
              obtain ⟨h1, h2⟩ := spliceO_spec hz'
              simp only [List.map_cons, Instr.fill, hρ x v hv, hp i p hpi, cellsO_spec hvs]
              rw [if_neg (by simp [hlen]; omega)]
              rw [← ih]
              congr 1
              have := foldl_set p.1 vs 0 z (by simpa using h1)
              simp only [Nat.add_zero] at this
              rw [h2, ← this]
              rw [← Array.foldl_toList, Array.toList_zipIdx]
            · simp at h
        · simp at h
      · simp at h
    · simp at h
end Go.K

namespace Go.K
open Go
set_option linter.unusedVariables false
section
variable {P : Program} {U : Env} {w0 : World} {L0 L : List Res} {ty : TypeId}
theorem Ev.val {o : Op} {x : Value} (h : ∀ (ρ : Operand → Value) (w : World) (dst : Option Tmp) (pos : String) (after : Array Edge) (guard : Option (Nat × Bool)), (∀ x v, opv U x = some v → ρ x = v) → Tr w0 L0 w L →
    (execOp ρ ⟨dst, o, ty, pos, after, guard⟩).run P w = .ok (.value x) w) : Ev P U w0 L0 L o ty (Is x) No := by
  intro ρ w dst pos after guard hρ hT
  rw [h ρ w dst pos after guard hρ hT]
  exact ⟨rfl, Tr.refl_emp w⟩
theorem Ev.cast {o : Op} {x y : Value} (h : Ev P U w0 L0 L o ty (Is x) No) (e : x = y) : Ev P U w0 L0 L o ty (Is y) No := e ▸ h
theorem Ev.cast_int {o : Op} {k : IntKind} {a b : Int} (h : Ev P U w0 L0 L o ty (Is (.int k a)) No) (e : a = b) : Ev P U w0 L0 L o ty (Is (.int k b)) No := e ▸ h
theorem Ev.cast_bool {o : Op} {a b : Bool} (h : Ev P U w0 L0 L o ty (Is (.bool a)) No) (e : a = b) : Ev P U w0 L0 L o ty (Is (.bool b)) No := e ▸ h
theorem Ev.yes {o : Op} {p : Prop} [Decidable p] (h : Ev P U w0 L0 L o ty (Is (.bool (decide p))) No) (hp : p) : Ev P U w0 L0 L o ty (Is (.bool true)) No := h.cast (by rw [decide_eq_true hp])
theorem Ev.no {o : Op} {p : Prop} [Decidable p] (h : Ev P U w0 L0 L o ty (Is (.bool (decide p))) No) (hp : ¬ p) : Ev P U w0 L0 L o ty (Is (.bool false)) No := h.cast (by rw [decide_eq_false hp])
theorem e_move {x : Operand} {v : Value} (hx : opv U x = some v) : Ev P U w0 L0 L (.move x) ty (Is v) No :=
  .val fun ρ w dst pos after guard hρ hT => by simp [execOp, hρ x v hx, go_sem]
theorem e_assign {x : Operand} {v : Value} (hx : opv U x = some v) : Ev P U w0 L0 L (.assign x) ty (Is v) No :=
  .val fun ρ w dst pos after guard hρ hT => by simp [execOp, hρ x v hx, go_sem]
theorem e_pick_t {c a b : Operand} {v : Value} (hc : opv U c = some (.bool true)) (hx : opv U a = some v) : Ev P U w0 L0 L (.pick c a b) ty (Is v) No :=
  .val fun ρ w dst pos after guard hρ hT => by simp [execOp, hρ _ _ hx, hρ _ _ hc, go_sem]
theorem e_pick_f {c a b : Operand} {v : Value} (hc : opv U c = some (.bool false)) (hx : opv U b = some v) : Ev P U w0 L0 L (.pick c a b) ty (Is v) No :=
  .val fun ρ w dst pos after guard hρ hT => by simp [execOp, hρ _ _ hx, hρ _ _ hc, go_sem]
/-! ### Numbers -/
def fits64 (n : Int) : Prop := -9223372036854775808 ≤ n ∧ n ≤ 9223372036854775807
theorem wrap64_of {n : Int} (h : fits64 n) : IntKind.i64.wrap n = n := by
  obtain ⟨h1, h2⟩ := h
  simp only [IntKind.wrap, IntKind.bits, IntKind.signed]
  simp
  omega
theorem run_equalIn_bool (w : World) (d : Nat) {T : TypeId} (p q : Bool) (hu : P.underlying T = some .bool) : (Op.equalIn (d + 1) T (.bool p) (.bool q)).run P w = .ok (p == q) w := by
  simp [Op.equalIn, run_underlying hu]
section
variable {T Y : TypeId} {x y : Operand} {k k2 : IntKind} {a b : Int}
theorem e_addw (hx : opv U x = some (.int k a)) (hy : opv U y = some (.int k b)) : Ev P U w0 L0 L (.binOp .add T x y Y) ty (Is (.int k (k.wrap (a + b)))) No :=
  .val fun ρ w dst pos after guard hρ hT => by simp [execOp, hρ _ _ hx, hρ _ _ hy, go_sem]
theorem e_subw (hx : opv U x = some (.int k a)) (hy : opv U y = some (.int k b)) : Ev P U w0 L0 L (.binOp .sub T x y Y) ty (Is (.int k (k.wrap (a - b)))) No :=
  .val fun ρ w dst pos after guard hρ hT => by simp [execOp, hρ _ _ hx, hρ _ _ hy, go_sem]
theorem e_mulw (hx : opv U x = some (.int k a)) (hy : opv U y = some (.int k b)) : Ev P U w0 L0 L (.binOp .mul T x y Y) ty (Is (.int k (k.wrap (a * b)))) No :=
  .val fun ρ w dst pos after guard hρ hT => by simp [execOp, hρ _ _ hx, hρ _ _ hy, go_sem]
theorem e_add (hx : opv U x = some (.int .i64 a)) (hy : opv U y = some (.int .i64 b)) (h : fits64 (a + b)) : Ev P U w0 L0 L (.binOp .add T x y Y) ty (Is (.int .i64 (a + b))) No := (e_addw hx hy).cast_int (wrap64_of h)
theorem e_sub (hx : opv U x = some (.int .i64 a)) (hy : opv U y = some (.int .i64 b)) (h : fits64 (a - b)) : Ev P U w0 L0 L (.binOp .sub T x y Y) ty (Is (.int .i64 (a - b))) No := (e_subw hx hy).cast_int (wrap64_of h)
theorem e_mul (hx : opv U x = some (.int .i64 a)) (hy : opv U y = some (.int .i64 b)) (h : fits64 (a * b)) : Ev P U w0 L0 L (.binOp .mul T x y Y) ty (Is (.int .i64 (a * b))) No := (e_mulw hx hy).cast_int (wrap64_of h)
theorem e_lt (hx : opv U x = some (.int k a)) (hy : opv U y = some (.int k b)) : Ev P U w0 L0 L (.binOp .lss T x y Y) ty (Is (.bool (decide (a < b)))) No :=
  .val fun ρ w dst pos after guard hρ hT => by simp [execOp, hρ _ _ hx, hρ _ _ hy, go_sem]
theorem e_le (hx : opv U x = some (.int k a)) (hy : opv U y = some (.int k b)) : Ev P U w0 L0 L (.binOp .leq T x y Y) ty (Is (.bool (decide (a ≤ b)))) No :=
  .val fun ρ w dst pos after guard hρ hT => by simp [execOp, hρ _ _ hx, hρ _ _ hy, go_sem]
theorem e_gt (hx : opv U x = some (.int k a)) (hy : opv U y = some (.int k b)) : Ev P U w0 L0 L (.binOp .gtr T x y Y) ty (Is (.bool (decide (b < a)))) No :=
  .val fun ρ w dst pos after guard hρ hT => by simp [execOp, hρ _ _ hx, hρ _ _ hy, go_sem]
theorem e_ge (hx : opv U x = some (.int k a)) (hy : opv U y = some (.int k b)) : Ev P U w0 L0 L (.binOp .geq T x y Y) ty (Is (.bool (decide (b ≤ a)))) No :=
  .val fun ρ w dst pos after guard hρ hT => by simp [execOp, hρ _ _ hx, hρ _ _ hy, go_sem]
theorem e_eq (hx : opv U x = some (.int k a)) (hy : opv U y = some (.int k b)) : Ev P U w0 L0 L (.binOp .eql T x y Y) ty (Is (.bool (decide (a = b)))) No :=
  .val fun ρ w dst pos after guard hρ hT => by
    have : (a == b) = decide (a = b) := by by_cases h : a = b <;> simp [h]
    simp [execOp, hρ _ _ hx, hρ _ _ hy, go_sem, eqGuard, this]
theorem e_ne (hx : opv U x = some (.int k a)) (hy : opv U y = some (.int k b)) : Ev P U w0 L0 L (.binOp .neq T x y Y) ty (Is (.bool (decide (a ≠ b)))) No :=
  .val fun ρ w dst pos after guard hρ hT => by
    have : (a != b) = decide (a ≠ b) := by by_cases h : a = b <;> simp [h]
    simp [execOp, hρ _ _ hx, hρ _ _ hy, go_sem, eqGuard, this]
theorem e_eqb {p q : Bool} (hu : P.underlying T = some .bool) (hx : opv U x = some (.bool p)) (hy : opv U y = some (.bool q)) : Ev P U w0 L0 L (.binOp .eql T x y Y) ty (Is (.bool (p == q))) No :=
  .val fun ρ w dst pos after guard hρ hT => by 
    have h1 : (binOp .eql T (.bool p) (.bool q)).run P w = .ok (.bool (p == q)) w := by
      simp only [binOp]
      simp [Op.equal, Op.maxDepth, run_equalIn_bool w 9999 p q hu]
    simp [execOp, hρ _ _ hx, hρ _ _ hy, go_sem, eqGuard, h1]
theorem e_neb {p q : Bool} (hu : P.underlying T = some .bool) (hx : opv U x = some (.bool p)) (hy : opv U y = some (.bool q)) : Ev P U w0 L0 L (.binOp .neq T x y Y) ty (Is (.bool (p != q))) No :=
  .val fun ρ w dst pos after guard hρ hT => by 
    have h1 : (binOp .neq T (.bool p) (.bool q)).run P w = .ok (.bool (p != q)) w := by
      simp only [binOp]
      simp [Op.equal, Op.maxDepth, run_equalIn_bool w 9999 p q hu]
      cases p <;> cases q <;> rfl
    simp [execOp, hρ _ _ hx, hρ _ _ hy, go_sem, eqGuard, h1]
theorem e_not {p : Bool} (hx : opv U x = some (.bool p)) : Ev P U w0 L0 L (.unOp .not T x) ty (Is (.bool (!p))) No :=
  .val fun ρ w dst pos after guard hρ hT => by simp [execOp, hρ _ _ hx, go_sem]
theorem e_notp {p : Prop} [Decidable p] (hx : opv U x = some (.bool (decide p))) : Ev P U w0 L0 L (.unOp .not T x) ty (Is (.bool (decide (¬ p)))) No := (e_not hx).cast_bool (by simp)
theorem e_quo (hx : opv U x = some (.int .i64 a)) (hy : opv U y = some (.int .i64 b)) (h1 : 0 ≤ a) (h2 : 0 < b) (h3 : a ≤ 9223372036854775807) : Ev P U w0 L0 L (.binOp .quo T x y Y) ty (Is (.int .i64 (a / b))) No :=
  .val fun ρ w dst pos after guard hρ hT => by
    have h4 : b ≠ 0 := by omega
    have h5 : a.tdiv b = a / b := Int.tdiv_eq_ediv_of_nonneg h1
    have h6 : IntKind.i64.wrap (a / b) = a / b := wrap64_of ⟨by have := Int.ediv_nonneg h1 (Int.le_of_lt h2); omega, by have := Int.ediv_le_self b h1; omega⟩
    simp [execOp, hρ _ _ hx, hρ _ _ hy, go_sem, h4, h5, h6]
theorem e_rem (hx : opv U x = some (.int .i64 a)) (hy : opv U y = some (.int .i64 b)) (h1 : 0 ≤ a) (h2 : 0 < b) (h3 : b ≤ 9223372036854775807) : Ev P U w0 L0 L (.binOp .rem T x y Y) ty (Is (.int .i64 (a % b))) No :=
  .val fun ρ w dst pos after guard hρ hT => by
    have h4 : b ≠ 0 := by omega
    have h5 : a.tmod b = a % b := Int.tmod_eq_emod_of_nonneg h1
    have h6 : IntKind.i64.wrap (a % b) = a % b := wrap64_of ⟨by have := Int.emod_nonneg a h4; omega, by have := Int.emod_lt_of_pos a h2; omega⟩
    simp [execOp, hρ _ _ hx, hρ _ _ hy, go_sem, h4, h5]
end
/-! ### Memory that is read -/
theorem e_load {T : TypeId} {x : Operand} {b off : Nat} {E : TypeId} {cs : List Value} {v : Value} (hA : ∀ w, (isAgg T).run P w = .ok false w) (hx : opv U x = some (.pointer (some ⟨b, off, none⟩))) [h : HasC L b E cs] (hv : cs[off]? = some v) :
    Ev P U w0 L0 L (.load T x) ty (Is v) No :=
  .val fun ρ w dst pos after guard hρ hT => by
    have hc : w.cell? ⟨b, off, none⟩ = some v := by rw [cell_of_block (Tr.at (b := b) hT), hv]
    simp [execOp, hρ _ _ hx, go_sem, hA, hc]
theorem e_loadw {T : TypeId} {x : Operand} {p : Addr} {v : Value} (hA : ∀ w, (isAgg T).run P w = .ok false w) (hx : opv U x = some (.pointer (some p))) (h : ∀ w, Tr w0 L0 w L → w.cell? p = some v) :
    Ev P U w0 L0 L (.load T x) ty (Is v) No :=
  .val fun ρ w dst pos after guard hρ hT => by
    simp [execOp, hρ _ _ hx, go_sem, hA, h w hT]
theorem Tr.cell0 {w w' : World} {L : List Res} (h : Tr w [] w' L) {p : Addr} {v : Value} (hc : w.cell? p = some v) : w'.cell? p = some v := by
  have hb : p.block < w.heap.size := by
    rcases Nat.lt_or_ge p.block w.heap.size with h1 | h1
    · exact h1
    · simp [World.cell?, Array.getElem?_eq_none h1] at hc
  rw [World.cell?_of_block (w := w) (h.old p.block hb)]; exact hc
theorem e_load0 {T : TypeId} {x : Operand} {p : Addr} {v : Value} (hA : ∀ w, (isAgg T).run P w = .ok false w) (hx : opv U x = some (.pointer (some p))) (hc : w0.cell? p = some v) :
    Ev P U w0 [] L (.load T x) ty (Is v) No := e_loadw hA hx fun w hT => hT.cell0 hc
theorem run_cells {w : World} {b off : Nat} {cs vs : List Value} {E : TypeId} (hb : w.heap[b]? = some (.cells cs.toArray E (0, 0))) (h1 : off + vs.length ≤ cs.length) (h2 : vs = (cs.drop off).take vs.length) : (loadCells ⟨b, off, none⟩ vs.length).run P w = .ok vs.toArray w := by
  refine run_loadCells_list w _ vs fun j v hj => ?_
  rw [add_addr, cell_of_block hb]
  have hjl := (List.getElem?_eq_some_iff.1 hj).1
  rw [h2, List.getElem?_take, if_pos hjl, List.getElem?_drop] at hj
  exact hj
theorem e_loads {T : TypeId} {x : Operand} {b off n : Nat} {E : TypeId} {cs vs : List Value} (hA : ∀ w, (isAgg T).run P w = .ok true w) (hS : ∀ w, (sizeOf T).run P w = .ok n w) (hx : opv U x = some (.pointer (some ⟨b, off, none⟩))) [h : HasC L b E cs]
    (hv : takeO cs off n = some vs) : Ev P U w0 L0 L (.load T x) ty (Is (.agg vs.toArray)) No :=
  .val fun ρ w dst pos after guard hρ hT => by
    obtain ⟨h1, h2⟩ := takeO_spec hv
    have hl : vs.length = n := by rw [h2]; simp; omega
    subst hl
    have := run_cells (P := P) (Tr.at (b := b) hT) h1 h2
    unfold loadCells at this
    simp [execOp, hρ _ _ hx, go_sem, hA, hS, this]
/-- Where a field stands, of a struct's type: of fields that take room. -/
def fieldOff (P : Program) (T : TypeId) (i : Nat) : Option (TypeId × Nat × Nat) :=
  match P.underlying T with
  | some (.struct fs) => match fs[i]? with
    | some f => match P.info? f.type with
      | some it => if it.size = 0 then none else some (f.type, f.offset, it.size)
      | none => none
    | none => none
  | _ => none
theorem fieldOff_spec {T E : TypeId} {i k n : Nat} (h : fieldOff P T i = some (E, k, n)) : ∃ fs f, P.underlying T = some (.struct fs) ∧ fs[i]? = some f ∧ f.type = E ∧ f.offset = k ∧ n ≠ 0 ∧ ∀ w, (sizeOf E).run P w = .ok n w := by
  unfold fieldOff at h
  split at h
  · rename_i fs hfs
    split at h
    · rename_i f hf
      split at h
      · rename_i it hit
        split at h
        · simp at h
        · rename_i hsz
          simp only [Option.some.injEq, Prod.mk.injEq] at h
          obtain ⟨h1, h2, h3⟩ := h
          subst h1 h2 h3
          exact ⟨fs, f, hfs, hf, rfl, rfl, hsz, fun w => by simp [sizeOf, typeInfo, hit, program, Sem.run, go_sem]⟩
      · simp at h
    · simp at h
  · simp at h
theorem e_fieldAddr {T E : TypeId} {x : Operand} {i k n b off : Nat} (hf : fieldOff P T i = some (E, k, n)) (hx : opv U x = some (.pointer (some ⟨b, off, none⟩))) : Ev P U w0 L0 L (.fieldAddr T x i) ty (Is (.pointer (some ⟨b, off + k, none⟩))) No :=
  .val fun ρ w dst pos after guard hρ hT => by
    obtain ⟨fs, f, h1, h2, h3, h4, h5, h6⟩ := fieldOff_spec hf
    subst h3 h4
    simp [execOp, hρ _ _ hx, Instr.fieldAt, run_underlying h1, h2, Instr.sureAddr, fieldPlace, h6, h5, add_addr, go_sem]
theorem e_field {T E : TypeId} {x : Operand} {i k n : Nat} {cs : List Value} {v : Value} (hf : fieldOff P T i = some (E, k, n)) (hA : ∀ w, (isAgg E).run P w = .ok false w) (hx : opv U x = some (.agg cs.toArray)) (hv : cs[k]? = some v) : Ev P U w0 L0 L (.field T x i) ty (Is v) No :=
  .val fun ρ w dst pos after guard hρ hT => by
    obtain ⟨fs, f, h1, h2, h3, h4, h5, h6⟩ := fieldOff_spec hf
    subst h3 h4
    simp [execOp, hρ _ _ hx, Instr.field, run_underlying h1, h2, part, hA, hv, asAgg, go_sem]
theorem e_fields {T E : TypeId} {x : Operand} {i k n : Nat} {cs vs : List Value} (hf : fieldOff P T i = some (E, k, n)) (hA : ∀ w, (isAgg E).run P w = .ok true w) (hx : opv U x = some (.agg cs.toArray)) (hv : takeO cs k n = some vs) : Ev P U w0 L0 L (.field T x i) ty (Is (.agg vs.toArray)) No :=
  .val fun ρ w dst pos after guard hρ hT => by
    obtain ⟨fs, f, h1, h2, h3, h4, h5, h6⟩ := fieldOff_spec hf
    subst h3 h4
    obtain ⟨h7, h8⟩ := takeO_spec hv
    have : cs.toArray.extract f.offset (f.offset + n) = vs.toArray := by rw [h8]; simp [List.extract_eq_take_drop]
    simp [execOp, hρ _ _ hx, Instr.field, run_underlying h1, h2, part, hA, asAgg, go_sem, h6, this, -List.extract_toArray]
/-- An array's elements. -/
def arrOf (P : Program) (T : TypeId) : Option (Nat × TypeId × Nat) :=
  match P.underlying T with
  | some (.array n e) => match P.info? e with
    | some it => some (n, e, it.size)
    | none => none
  | _ => none
theorem arrOf_spec {T E : TypeId} {n k : Nat} (h : arrOf P T = some (n, E, k)) : P.underlying T = some (.array n E) ∧ ∀ w, (sizeOf E).run P w = .ok k w := by
  unfold arrOf at h
  split at h
  · rename_i n' e hu
    split at h
    · rename_i it hit
      simp only [Option.some.injEq, Prod.mk.injEq] at h
      obtain ⟨h1, h2, h3⟩ := h
      subst h1 h2 h3
      exact ⟨hu, fun w => by simp [sizeOf, typeInfo, hit, program, Sem.run, go_sem]⟩
    · simp at h
  · simp at h
theorem e_indexAddrA {T E : TypeId} {x y : Operand} {n k b off : Nat} {kd : IntKind} {i : Int} (hf : arrOf P T = some (n, E, k)) (hx : opv U x = some (.pointer (some ⟨b, off, none⟩))) (hy : opv U y = some (.int kd i)) (h0 : 0 ≤ i) (h1 : i < n) :
    Ev P U w0 L0 L (.indexAddr T x y) ty (Is (.pointer (some ⟨b, off + i.toNat * k, none⟩))) No :=
  .val fun ρ w dst pos after guard hρ hT => by
    obtain ⟨h2, h3⟩ := arrOf_spec hf
    simp [execOp, hρ _ _ hx, hρ _ _ hy, Instr.indexAt, run_underlying h2, asIntOf, Instr.sureAddr, h0, h1, h3, add_addr, go_sem]
theorem e_indexA {T E : TypeId} {x y : Operand} {n k : Nat} {kd : IntKind} {i : Int} {cs : List Value} {v : Value} (hf : arrOf P T = some (n, E, k)) (hA : ∀ w, (isAgg E).run P w = .ok false w) (hx : opv U x = some (.agg cs.toArray)) (hy : opv U y = some (.int kd i)) (h0 : 0 ≤ i) (h1 : i < n)
    (hv : cs[i.toNat * k]? = some v) : Ev P U w0 L0 L (.index T x y) ty (Is v) No :=
  .val fun ρ w dst pos after guard hρ hT => by
    obtain ⟨h2, h3⟩ := arrOf_spec hf
    simp [execOp, hρ _ _ hx, hρ _ _ hy, Instr.index, run_underlying h2, asIntOf, h0, h1, h3, part, hA, hv, go_sem]
theorem e_indexAs {T E : TypeId} {x y : Operand} {n k : Nat} {kd : IntKind} {i : Int} {cs vs : List Value} (hf : arrOf P T = some (n, E, k)) (hA : ∀ w, (isAgg E).run P w = .ok true w) (hx : opv U x = some (.agg cs.toArray)) (hy : opv U y = some (.int kd i)) (h0 : 0 ≤ i) (h1 : i < n)
    (hv : takeO cs (i.toNat * k) k = some vs) : Ev P U w0 L0 L (.index T x y) ty (Is (.agg vs.toArray)) No :=
  .val fun ρ w dst pos after guard hρ hT => by
    obtain ⟨h2, h3⟩ := arrOf_spec hf
    obtain ⟨h7, h8⟩ := takeO_spec hv
    have : cs.toArray.extract (i.toNat * k) (i.toNat * k + k) = vs.toArray := by rw [h8]; simp [List.extract_eq_take_drop]
    simp [execOp, hρ _ _ hx, hρ _ _ hy, Instr.index, run_underlying h2, asIntOf, h0, h1, h3, part, hA, go_sem, this, -List.extract_toArray]
/-- A slice's elements. -/
def slOf (P : Program) (T : TypeId) : Option (TypeId × Nat) :=
  match P.underlying T with
  | some (.slice e) => match P.info? e with
    | some it => some (e, it.size)
    | none => none
  | _ => none
theorem slOf_spec {T E : TypeId} {k : Nat} (h : slOf P T = some (E, k)) : P.underlying T = some (.slice E) ∧ (∃ it, P.info? E = some it ∧ it.size = k) ∧ ∀ w, (sizeOf E).run P w = .ok k w := by
  unfold slOf at h
  split at h
  · rename_i e hu
    split at h
    · rename_i it hit
      simp only [Option.some.injEq, Prod.mk.injEq] at h
      obtain ⟨h1, h2⟩ := h
      subst h1 h2
      exact ⟨hu, ⟨it, hit, rfl⟩, fun w => by simp [sizeOf, typeInfo, hit, program, Sem.run, go_sem]⟩
    · simp at h
  · simp at h
theorem e_indexAddr {T E : TypeId} {x y : Operand} {k b off n c : Nat} {kd : IntKind} {i : Int} (hf : slOf P T = some (E, k)) (hx : opv U x = some (.slice (some ⟨b, off, none⟩) n c)) (hy : opv U y = some (.int kd i)) (h0 : 0 ≤ i) (h1 : i < n) :
    Ev P U w0 L0 L (.indexAddr T x y) ty (Is (.pointer (some ⟨b, off + i.toNat * k, none⟩))) No :=
  .val fun ρ w dst pos after guard hρ hT => by
    obtain ⟨h2, _, h3⟩ := slOf_spec hf
    simp [execOp, hρ _ _ hx, hρ _ _ hy, Instr.indexAt, run_underlying h2, asIntOf, h0, h1, h3, add_addr, go_sem]
theorem e_build {T : TypeId} {parts : List (Nat × Operand)} {z : List Value} {pl : List (Nat × Nat)} {cs : List Value} (hl : layout P T = some (z, pl)) (hb : buildO U pl z parts = some cs) : Ev P U w0 L0 L (.build T parts.toArray) ty (Is (.agg cs.toArray)) No :=
  .val fun ρ w dst pos after guard hρ hT => by
    have h : P.built T (parts.map fun (i, x) => (i, ρ x)) = some cs.toArray := by
      unfold layout at hl
      unfold Program.built
      split at hl
      · rename_i it n e hit hu
        simp only [hit, hu]
        split at hl
        · rename_i zz ie hz hie
          simp only [Option.some.injEq, Prod.mk.injEq] at hl
          obtain ⟨h1, h2⟩ := hl
          subst h1 h2
          simp only [hz, hie]
          have := fill_buildO hρ (fun i => some (i * ie.size, ie.size)) (fun i p hp => by
            simp only [List.getElem?_map] at hp
            obtain ⟨q, hq, hq2⟩ := Option.map_eq_some_iff.1 hp
            rw [← hq2]
            have := List.getElem?_eq_some_iff.1 hq
            obtain ⟨h3, h4⟩ := this
            simp at h4
            rw [h4]) hb
          simpa using this
        · simp at hl
      · rename_i it fs hit hu
        simp only [hit, hu]
        split at hl
        · rename_i zz places hz hpl
          simp only [Option.some.injEq, Prod.mk.injEq] at hl
          obtain ⟨h1, h2⟩ := hl
          subst h1 h2
          simp only [hz, hpl]
          have := fill_buildO hρ (fun i => places.toArray[i]?) (fun i p hp => by simpa using hp) hb
          simpa using this
        · simp at hl
      · simp at hl
    have := run_build (P := P) w T (parts.map fun (i, x) => (i, ρ x)).toArray cs.toArray (by simpa using h)
    simp only [List.map_toArray] at this
    simp only [execOp, List.map_toArray, Sem.run_bind, this, Result.andThen_ok]
    rfl
end
end Go.K

namespace Go.K
open Go
set_option linter.unusedVariables false
section
variable {P : Program} {ops : Array Oper} {Q : Exit → Act → World → Prop} {N : Nat} {U : Env} {w0 : World} {L0 L : List Res} {ty : TypeId} {rest : List Oper} {pos : String} {after : Array Edge}
/-- What is laid where a value points. -/
def atPtr (f : Nat → Res) : Value → Res
  | .pointer (some a) => f a.block
  | .slice (some a) _ _ => f a.block
  | .map (some r) => f r
  | _ => emp
theorem GL.res {l : List Oper} {L' : List Res} (h : GL P ops Q l N U w0 L0 L') (hs : Sub L' L) : GL P ops Q l N U w0 L0 L := fun a w hE hT => h a w hE (hT.sub hs)
theorem GL.keep {l : List Oper} {V : Env} (ts : List Nat) (hk : K.keep U ts = some V) (h : GL P ops Q l N V w0 L0 L) : GL P ops Q l N U w0 L0 L := fun a w hE hT => h a w (hE.sub (keep_agree hk)) hT
theorem e_box {T : TypeId} {x : Operand} {v : Value} {cs : List Value} (hx : opv U x = some v) (hc : cellsO v = some cs) : Ev P U w0 L0 L (.box T x) ty (fun u => ∃ b, u = .pointer (some ⟨b, 0, none⟩)) (atPtr fun b => cl b T cs) := by
  intro ρ w dst pos after guard hρ hT
  have : (execOp ρ ⟨dst, .box T x, ty, pos, after, guard⟩).run P w = .ok (.value (.pointer (some ⟨w.heap.size, 0, none⟩))) { w with heap := w.heap.push (.cells cs.toArray T) } := by
    rw [← cellsO_spec hc]
    simp only [execOp, hρ x v hx]
    rfl
  rw [this]
  exact ⟨⟨_, rfl⟩, Tr.fresh w _⟩
theorem GL.box {d : Tmp} {T : TypeId} {x : Operand} {v : Value} {cs : List Value} (hx : opv U x = some v) (hc : cellsO v = some cs) (hd : Nat.ble (d + 1) N = true)
    (hr : ∀ b, GL P ops Q rest N ((d, .pointer (some ⟨b, 0, none⟩)) :: U) w0 L0 (cl b T cs :: L)) : GL P ops Q (⟨some d, .box T x, ty, pos, after, Option.none⟩ :: rest) N U w0 L0 L :=
  GL.ev (e_box hx hc) hd fun v hv => by obtain ⟨b, rfl⟩ := hv; exact hr b
theorem e_alloc {T : TypeId} {v : Value} {cs : List Value} (hz : ∀ w, (zeroValue T).run P w = .ok v w) (hc : cellsO v = some cs) : Ev P U w0 L0 L (.alloc T) ty (fun u => ∃ b, u = .pointer (some ⟨b, 0, none⟩)) (atPtr fun b => cl b T cs) := by
  intro ρ w dst pos after guard hρ hT
  have : (execOp ρ ⟨dst, .alloc T, ty, pos, after, guard⟩).run P w = .ok (.value (.pointer (some ⟨w.heap.size, 0, none⟩))) { w with heap := w.heap.push (.cells cs.toArray T) } := by
    rw [← cellsO_spec hc]
    simp only [execOp, Instr.alloc, Sem.run_bind, hz, Result.andThen_ok]
    rfl
  rw [this]
  exact ⟨⟨_, rfl⟩, Tr.fresh w _⟩
theorem GL.alloc {d : Tmp} {T : TypeId} {v : Value} {cs : List Value} (hz : ∀ w, (zeroValue T).run P w = .ok v w) (hc : cellsO v = some cs) (hd : Nat.ble (d + 1) N = true)
    (hr : ∀ b, GL P ops Q rest N ((d, .pointer (some ⟨b, 0, none⟩)) :: U) w0 L0 (cl b T cs :: L)) : GL P ops Q (⟨some d, .alloc T, ty, pos, after, Option.none⟩ :: rest) N U w0 L0 L :=
  GL.ev (e_alloc hz hc) hd fun v hv => by obtain ⟨b, rfl⟩ := hv; exact hr b
def oneCells : List Value → Bool
  | [] => true
  | v :: vs => v.oneCell' && oneCells vs
theorem oneCells_spec : ∀ {vs : List Value}, oneCells vs = true → ∀ v ∈ vs, v.oneCell' = true
  | [], _, v, hv => by simp at hv
  | u :: vs, h, v, hv => by
    simp only [oneCells, Bool.and_eq_true] at h
    rcases List.mem_cons.1 hv with h1 | h1
    · subst h1; exact h.1
    · exact oneCells_spec h.2 v h1
/-- A store: the operation's run. -/
theorem run_store {ρ : Operand → Value} {w : World} {T E : TypeId} {x y : Operand} {b off : Nat} {v : Value} {cs vs cs' : List Value} {dst : Option Tmp} {guard : Option (Nat × Bool)} (hx : ρ x = .pointer (some ⟨b, off, none⟩)) (hy : ρ y = v)
    (hS : ∀ w, (sizeOf T).run P w = .ok vs.length w) (hc : v.cells = vs.toArray) (h1 : ∀ u ∈ vs, u.oneCell' = true) (hs : off + vs.length ≤ cs.length) (hcs : cs' = cs.take off ++ vs ++ cs.drop (off + vs.length)) (hb : w.heap[b]? = some (.cells cs.toArray E (0, 0))) :
    (execOp ρ ⟨dst, .store T x y, ty, pos, after, guard⟩).run P w = .ok .skip (w.setRow b cs'.toArray) := by
  have := run_storeCells_at (P := P) b off E vs 0 cs.toArray w hb (by simpa using hs) h1
  simp only [Nat.add_zero] at this
  simp only [execOp, hx, hy, Instr.storeAt, Instr.sureAddr, pure_bind, storeVar, Sem.run_bind, hS, Result.andThen_ok, hc]
  rw [if_neg (by simp)]
  simp only [this, Result.andThen_ok, hcs]
  rfl
theorem GL.store {T E : TypeId} {x y : Operand} {b off : Nat} {v : Value} {cs vs cs' : List Value} {L' : List Res} (hx : opv U x = some (.pointer (some ⟨b, off, none⟩))) (hy : opv U y = some v) (hc : cellsO v = some vs)
    (hS : ∀ w, (sizeOf T).run P w = .ok vs.length w) (h1 : oneCells vs = true) [hh : HasC L b E cs] (hs : spliceO cs off vs = some cs') [hset : SetC L b E cs cs' L']
    (hr : GL P ops Q rest N U w0 L0 L') : GL P ops Q (⟨Option.none, .store T x y, ty, pos, after, Option.none⟩ :: rest) N U w0 L0 L := by
  intro a w hE hT
  refine wpList_plain rfl fun K hK => ?_
  obtain ⟨h2, h3⟩ := spliceO_spec hs
  unfold Oper.wp
  rw [run_store (hE.op _ _ hx) (hE.op _ _ hy) hS (cellsO_spec hc) (oneCells_spec h1) h2 h3 (Tr.at (b := b) hT), Oper.upon_skip]
  exact hK _ _ (hr _ _ hE (Tr.setRow (b := b) hT))
/-! ### Calls -/
theorem opvs_spec {ρ : Operand → Value} (hρ : ∀ x v, opv U x = some v → ρ x = v) : ∀ {xs : List Operand} {vs : List Value}, opvs U xs = some vs → xs.map ρ = vs
  | [], vs, h => by simp [opvs] at h; subst h; rfl
  | x :: xs, vs, h => by
    simp only [opvs] at h
    split at h
    · rename_i v hv
      split at h
      · rename_i us hus
        simp only [Option.some.injEq] at h
        subst h
        simp [hρ x v hv, opvs_spec hρ hus]
      · simp at h
    · simp at h
theorem run_call {ρ : Operand → Value} {w : World} {f : FuncId} {xs : List Operand} {vs : List Value} {tys : Array TypeId} {dst : Option Tmp} {guard : Option (Nat × Bool)} (hf : ∀ args w, (callFunc f args).run P w = .ok (.enter f args) w) (hx : xs.map ρ = vs) (hρ : ρ (.func f) = .func (.func f) #[] #[]) :
    (execOp ρ ⟨dst, .call ⟨.value (.func f), xs.toArray, tys⟩, ty, pos, after, guard⟩).run P w = .ok (.enter f vs.toArray) w := by
  subst hx
  simp [execOp, go_sem, hρ, hf]
theorem e_call {f : FuncId} {xs : List Operand} {vs : List Value} {tys : Array TypeId} {Pv : Value → Prop} {R : Value → Res} (hf : ∀ args w, (callFunc f args).run P w = .ok (.enter f args) w) (hx : opvs U xs = some vs)
    (h : ∀ w, Tr w0 L0 w L → Calls P f vs.toArray w fun e w' => ∃ v, e = .returned v ∧ Pv v ∧ Tr w [] w' [R v]) : Ev P U w0 L0 L (.call ⟨.value (.func f), xs.toArray, tys⟩) ty Pv R := by
  intro ρ w dst pos after guard hρ hT
  rw [run_call hf (opvs_spec hρ hx) (hρ (.func f) _ rfl)]
  exact ⟨rfl, h w hT⟩
/-- A call that gives one value, and turns nothing. -/
theorem e_call1 {f : FuncId} {xs : List Operand} {vs : List Value} {tys : Array TypeId} {x : Value} (hf : ∀ args w, (callFunc f args).run P w = .ok (.enter f args) w) (hx : opvs U xs = some vs)
    (h : ∀ w, Tr w0 L0 w L → Calls P f vs.toArray w fun e w' => e = .returned x ∧ Tr w [] w' []) : Ev P U w0 L0 L (.call ⟨.value (.func f), xs.toArray, tys⟩) ty (Is x) No :=
  e_call hf hx fun w hT => (h w hT).mono fun e w' ⟨he, ht⟩ => ⟨x, he, rfl, by
    have := (Tr.refl_emp w').call (l := []) (Sub.refl [emp]) (Tr.refl_nil w')
    exact ⟨ht.os, ht.tape, ht.output, fun hn => ⟨(ht.ahead hn).1, fun r hr => by simp [No] at hr; subst hr; rfl⟩, ht.size, ht.frame, Disj.one _, fun r hr => by simp [No] at hr; subst hr; trivial, fun r hr b hb => by simp [No] at hr; subst hr; exact hb.elim⟩⟩
/-- A call that may turn some of what there is: these ('ks', their places) and no other. -/
def pickO (L : List Res) : List Nat → Option (List Res)
  | [] => some []
  | k :: ks => match L[k]? with
    | some r => match pickO L ks with
      | some l => some (r :: l)
      | none => none
    | none => none
def dropO (L : List Res) (ks : List Nat) : Nat → Option (List Res)
  | 0 => some []
  | n + 1 => match dropO L ks n with
    | some l => bif ks.contains n then some l else match L[n]? with
      | some r => some (l ++ [r])
      | none => none
    | none => none
theorem run_max2 {ρ : Operand → Value} {w : World} {dst : Option Tmp} {guard : Option (Nat × Bool)} {x y : Operand} {k : IntKind} {a b : Int} {T1 T2 : TypeId} (hx : ρ x = .int k a) (hy : ρ y = .int k b) : (execOp ρ ⟨dst, .call ⟨.builtin .max, #[x, y], #[T1, T2]⟩, ty, pos, after, guard⟩).run P w = .ok (.value (.int k (max a b))) w := by
  by_cases h : a ≤ b
  · have h1 : max a b = b := by omega
    by_cases h2 : a = b
    · subst h2; simp [execOp, hx, hy, go_sem]
    · simp [execOp, hx, hy, go_sem, h1]; omega
  · have h1 : max a b = a := by omega
    simp [execOp, hx, hy, go_sem, h1]; omega
theorem run_min2 {ρ : Operand → Value} {w : World} {dst : Option Tmp} {guard : Option (Nat × Bool)} {x y : Operand} {k : IntKind} {a b : Int} {T1 T2 : TypeId} (hx : ρ x = .int k a) (hy : ρ y = .int k b) : (execOp ρ ⟨dst, .call ⟨.builtin .min, #[x, y], #[T1, T2]⟩, ty, pos, after, guard⟩).run P w = .ok (.value (.int k (min a b))) w := by
  by_cases h : a ≤ b
  · have h1 : min a b = a := by omega
    by_cases h2 : a = b
    · subst h2; simp [execOp, hx, hy, go_sem]
    · simp [execOp, hx, hy, go_sem, h1]; omega
  · have h1 : min a b = b := by omega
    simp [execOp, hx, hy, go_sem, h1]; omega
theorem e_max {x y : Operand} {k : IntKind} {a b : Int} {T1 T2 : TypeId} (hx : opv U x = some (.int k a)) (hy : opv U y = some (.int k b)) : Ev P U w0 L0 L (.call ⟨.builtin .max, #[x, y], #[T1, T2]⟩) ty (Is (.int k (max a b))) No :=
  .val fun ρ w dst pos after guard hρ hT => run_max2 (hρ _ _ hx) (hρ _ _ hy)
theorem e_min {x y : Operand} {k : IntKind} {a b : Int} {T1 T2 : TypeId} (hx : opv U x = some (.int k a)) (hy : opv U y = some (.int k b)) : Ev P U w0 L0 L (.call ⟨.builtin .min, #[x, y], #[T1, T2]⟩) ty (Is (.int k (min a b))) No :=
  .val fun ρ w dst pos after guard hρ hT => run_min2 (hρ _ _ hx) (hρ _ _ hy)
/-! ### A function's begin and end -/
def argEnv : Nat → List Value → Env
  | _, [] => []
  | i, v :: vs => (i, v) :: argEnv (i + 1) vs
theorem argEnv_lk : ∀ {vs : List Value} {i t : Nat} {v : Value}, lk (argEnv i vs) t = some v → i ≤ t ∧ vs[t - i]? = some v
  | [], i, t, v, h => by simp [argEnv, lk] at h
  | u :: vs, i, t, v, h => by
    simp only [argEnv, lk] at h
    cases hb : Nat.beq i t with
    | true =>
      rw [hb] at h
      have := Nat.eq_of_beq_eq_true hb
      subst this
      simpa using h
    | false =>
      rw [hb] at h
      obtain ⟨h1, h2⟩ := argEnv_lk h
      refine ⟨by omega, ?_⟩
      rw [show t - i = (t - (i + 1)) + 1 by omega]
      simpa using h2
theorem enter {f : FuncId} {fn : Func} {c : Code} {args : List Value} {R : Ending → World → Prop} (hf : P.funcs[f]? = some fn) (hb : fn.body = some c) (hn : fn.ntmps = N) (hl : Nat.ble args.length N = true) (hd : Disj L0) (ho : ∀ r ∈ L0, r.ok w0.heap)
    (h : GC P c (bodyPost P fn R) N (argEnv 0 args) w0 L0 L0) : Calls P f args.toArray w0 R := by
  refine calls_of_wp hf hb (h _ _ ⟨?_, rfl, fun t v ht => ?_⟩ (Tr.start hd ho))
  · have := Nat.le_of_ble_eq_true hl
    simp [hn]; omega
  · obtain ⟨_, h2⟩ := argEnv_lk ht
    simp only [Nat.sub_zero] at h2
    have hlt := (List.getElem?_eq_some_iff.1 h2).1
    simp only [Act.eval, Array.getD_eq_getD_getElem?]
    rw [Array.getElem?_append_left (by simpa using hlt)]
    simp [h2]
theorem enter0 {f : FuncId} {fn : Func} {c : Code} {args : List Value} {R : Ending → World → Prop} (hf : P.funcs[f]? = some fn) (hb : fn.body = some c) (hn : fn.ntmps = N) (hl : Nat.ble args.length N = true)
    (h : GC P c (bodyPost P fn R) N (argEnv 0 args) w0 [] []) : Calls P f args.toArray w0 R := enter hf hb hn hl Disj.nil (fun _ h => by simp at h) h
theorem Sub.nil (L : List Res) : Sub [] L := ⟨fun i => i, fun _ _ h => h, fun i r h => by simp at h⟩
theorem Tr.nil {w w' : World} {L0 L : List Res} (h : Tr w L0 w' L) : Tr w L0 w' [] := h.sub (Sub.nil L)
end
end Go.K

namespace Go.K
open Go
set_option linter.unusedVariables false
section
variable {P : Program} {ops : Array Oper} {Q : Exit → Act → World → Prop} {N : Nat} {U : Env} {w0 : World} {L0 L : List Res} {ty : TypeId}
theorem GL.splitB {l : List Oper} {b : Bool} (t : Tmp) (hv : lk U t = some (.bool b)) (h1 : b = true → GL P ops Q l N ((t, .bool true) :: U) w0 L0 L) (h2 : b = false → GL P ops Q l N ((t, .bool false) :: U) w0 L0 L) : GL P ops Q l N U w0 L0 L := by
  have key : ∀ a, Eqs N a U → Eqs N a ((t, .bool b) :: U) := fun a hE => ⟨hE.size, hE.defers, fun s v hs => by
    simp only [lk] at hs
    cases hbe : Nat.beq t s with
    | true =>
      rw [hbe] at hs
      have := Nat.eq_of_beq_eq_true hbe
      subst this
      rw [hE.eq _ _ hv]
      simpa using hs
    | false => rw [hbe] at hs; exact hE.eq s v hs⟩
  intro a w hE hT
  cases b with
  | true => exact h1 rfl a w (key a hE) hT
  | false => exact h2 rfl a w (key a hE) hT
theorem agree.append {U V W : Env} (h : agree U V) (k : agree U W) : agree U (V ++ W) := by
  induction V with
  | nil => exact k
  | cons e V ih => exact ⟨h.1, ih h.2⟩
theorem GC.loopk {α : Type} {c : Code} {U1 : Env} (ts : List Nat) (hk : K.keep U ts = some U1) (V : α → Env) (M : α → List Res) (I : α → Prop) (μ : α → Nat) (x0 : α) (h0 : I x0) (hV : agree U (V x0)) (hM : Sub (M x0) L)
    (round : ∀ x, I x → GC P c (Exit.then (Head N w0 L0 (fun x => V x ++ U1) M I μ x) Q) N (V x ++ U1) w0 L0 (M x)) : GC P (.loop c) Q N U w0 L0 L :=
  GC.loop (fun x => V x ++ U1) M I μ x0 h0 (hV.append (keep_agree hk)) hM round
/-- A loop of so many rounds at most. -/
def GR (P : Program) (c : Code) (Q : Exit → Act → World → Prop) (n N : Nat) (U : Env) (w0 : World) (L0 L : List Res) : Prop := ∀ a w, Eqs N a U → Tr w0 L0 w L → Code.rounds P c Q n a w
theorem GC.rounds {c : Code} (n : Nat) (h : GR P c Q n N U w0 L0 L) : GC P (.loop c) Q N U w0 L0 L := fun a w hE hT => wp_loop_rounds n (h a w hE hT)
theorem GR.succ {c : Code} {n : Nat} (h : GC P c (Exit.then (Code.rounds P c Q n) Q) N U w0 L0 L) : GR P c Q (n + 1) N U w0 L0 L := h
theorem GQ.again {c : Code} {n : Nat} (h : GR P c Q n N U w0 L0 L) : GQ (Exit.then (Code.rounds P c Q n) Q) .normal N U w0 L0 L := h
theorem GR.keep {c : Code} {n : Nat} {V : Env} (ts : List Nat) (hk : K.keep U ts = some V) (h : GR P c Q n N V w0 L0 L) : GR P c Q n N U w0 L0 L := fun a w hE hT => h a w (hE.sub (keep_agree hk)) hT
theorem GQ.end_ret {fn : Func} {R : Ending → World → Prop} (h : GQ (bodyPost P fn R) .ret N U w0 L0 L) : GQ (bodyPost P fn R) .normal N U w0 L0 L := h
theorem GQ.ret0 {fn : Func} {R : Ending → World → Prop} (hr : fn.results = #[]) (h : ∀ w, Tr w0 L0 w L → R (.returned (.tuple #[])) w) : GQ (bodyPost P fn R) .ret N U w0 L0 L := fun a w hE hT => by
  refine bodyPost_ret (v := .tuple #[]) ?_ hE.defers (h w hT)
  simp [results, hr, go_sem]
theorem GQ.ret_tt {fn : Func} {R : Ending → World → Prop} {t1 t2 : Tmp} {v1 v2 : Value} (hr : fn.results = #[.tmp t1, .tmp t2]) (h1 : lk U t1 = some v1) (h2 : lk U t2 = some v2) (h : ∀ w, Tr w0 L0 w L → R (.returned (.tuple #[v1, v2])) w) : GQ (bodyPost P fn R) .ret N U w0 L0 L := fun a w hE hT => by
  refine bodyPost_ret (v := .tuple #[v1, v2]) ?_ hE.defers (h w hT)
  have e1 := hE.eq t1 v1 h1
  have e2 := hE.eq t2 v2 h2
  simp only [Act.eval, Array.getD_eq_getD_getElem?] at e1 e2
  simp [results, hr, e1, e2, go_sem]
theorem GQ.ret_ttt {fn : Func} {R : Ending → World → Prop} {t1 t2 t3 : Tmp} {v1 v2 v3 : Value} (hr : fn.results = #[.tmp t1, .tmp t2, .tmp t3]) (h1 : lk U t1 = some v1) (h2 : lk U t2 = some v2) (h3 : lk U t3 = some v3) (h : ∀ w, Tr w0 L0 w L → R (.returned (.tuple #[v1, v2, v3])) w) : GQ (bodyPost P fn R) .ret N U w0 L0 L := fun a w hE hT => by
  refine bodyPost_ret (v := .tuple #[v1, v2, v3]) ?_ hE.defers (h w hT)
  have e1 := hE.eq t1 v1 h1
  have e2 := hE.eq t2 v2 h2
  have e3 := hE.eq t3 v3 h3
  simp only [Act.eval, Array.getD_eq_getD_getElem?] at e1 e2 e3
  simp [results, hr, e1, e2, e3, go_sem]
theorem GQ.retc {fn : Func} {R : Ending → World → Prop} {t T : Nat} {n b off : Nat} {E : TypeId} {cs vs : List Value} (hr : fn.results = #[.cell t T]) (hA : ∀ w, (isAgg T).run P w = .ok true w) (hS : ∀ w, (sizeOf T).run P w = .ok n w)
    (hv : lk U t = some (.pointer (some ⟨b, off, none⟩))) [hc : HasC L b E cs] (ht : takeO cs off n = some vs) (h : ∀ w, Tr w0 L0 w L → R (.returned (.agg vs.toArray)) w) : GQ (bodyPost P fn R) .ret N U w0 L0 L := fun a w hE hT => by
  refine bodyPost_ret (v := .agg vs.toArray) ?_ hE.defers (h w hT)
  have h1 := hE.eq t _ hv
  simp only [Act.eval] at h1
  obtain ⟨h2, h3⟩ := takeO_spec ht
  have hl : vs.length = n := by rw [h3]; simp; omega
  subst hl
  have := run_cells (P := P) (Tr.at (b := b) hT) h2 h3
  unfold loadCells at this
  simp only [Array.getD_eq_getD_getElem?] at h1
  simp [results, hr, go_sem, h1, hA, hS, this]
theorem Res.ok_of {w : World} {r : Res} (h : Tr w0 L0 w L) (hr : r ∈ L) : r.ok w.heap := h.ok r hr
theorem Sub.pick1 {L : List Res} {k : Nat} {r : Res} (h : L[k]? = some r) : Sub [r] L := ⟨fun i => i + k, fun i j e => by simpa using e, fun i s hs => by
  cases i with
  | zero => simp at hs; subst hs; simpa using h
  | succ i => simp at hs⟩
/-- Some behind some others, by looking. -/
class SubC (L' L : List Res) : Prop where
  out : Sub L' L
instance SubC.tail {L' L : List Res} {r : Res} [h : SubC L' L] : SubC L' (r :: L) := ⟨h.out.trans (Sub.tail r L)⟩
instance SubC.refl {L : List Res} : SubC L L := ⟨Sub.refl L⟩
theorem sub {L' L : List Res} [h : SubC L' L] : Sub L' L := h.out
end
end Go.K

namespace Go.K
open Go
set_option linter.unusedVariables false
section
variable {P : Program} {ops : Array Oper} {Q : Exit → Act → World → Prop} {N : Nat} {U : Env} {w0 : World} {L0 L : List Res} {ty : TypeId} {rest : List Oper} {pos : String} {after : Array Edge}
/-- The block and the offset of an address, if there is one. -/
def bk (a : Option Addr) : Nat := match a with | some p => p.block | none => 0
def of_ (a : Option Addr) : Nat := match a with | some p => p.off | none => 0
/-- A slice of n elements of k cells each, that read so. -/
structure Sl (w : World) (k : Nat) (a : Option Addr) (n : Nat) (xs : List Value) : Prop where
  len : xs.length = n * k
  base : 0 < n → a = some ⟨bk a, of_ a, none⟩
  cell : ∀ j v, xs[j]? = some v → w.cell? ⟨bk a, of_ a + j, none⟩ = some v
theorem Sl.later {w w' : World} {L : List Res} {k n : Nat} {a : Option Addr} {xs : List Value} (h : Sl w k a n xs) (hT : Tr w [] w' L) : Sl w' k a n xs := ⟨h.len, h.base, fun j v hj => hT.cell0 (h.cell j v hj)⟩
theorem Sl.nil (w : World) (k : Nat) : Sl w k none 0 [] := ⟨by simp, fun h => absurd h (by omega), fun j v h => by simp at h⟩
theorem Sl.of_block {w : World} {b : Nat} {T : TypeId} {cs : List Value} {k n : Nat} (h : w.heap[b]? = some (.cells cs.toArray T (0, 0))) (hl : cs.length = n * k) : Sl w k (some ⟨b, 0, none⟩) n cs :=
  ⟨hl, fun _ => rfl, fun j v hj => by simp only [bk, of_, Nat.zero_add]; rw [cell_of_block h]; exact hj⟩
theorem Sl.pre {w : World} {b : Nat} {T : TypeId} {cs xs : List Value} {k n : Nat} (h : w.heap[b]? = some (.cells (xs ++ cs).toArray T (0, 0))) (hl : xs.length = n * k) : Sl w k (some ⟨b, 0, none⟩) n xs :=
  ⟨hl, fun _ => rfl, fun j v hj => by
    have hjl := (List.getElem?_eq_some_iff.1 hj).1
    simp only [bk, of_, Nat.zero_add]; rw [cell_of_block h, List.getElem?_append_left hjl]; exact hj⟩
theorem e_indexAddrS {T E : TypeId} {x y : Operand} {k n c : Nat} {a : Option Addr} {kd : IntKind} {i : Int} {w1 : World} {xs : List Value} (hf : slOf P T = some (E, k)) (hx : opv U x = some (.slice a n c)) (hy : opv U y = some (.int kd i)) (hS : Sl w1 k a n xs) (h0 : 0 ≤ i) (h1 : i < n) :
    Ev P U w0 L0 L (.indexAddr T x y) ty (Is (.pointer (some ⟨bk a, of_ a + i.toNat * k, none⟩))) No :=
  e_indexAddr hf (by rw [hx, ← hS.base (by omega)]) hy h0 h1
theorem e_len {T : TypeId} {x : Operand} {a : Option Addr} {n c : Nat} {E : TypeId} (hu : P.underlying T = some (.slice E)) (hx : opv U x = some (.slice a n c)) : Ev P U w0 L0 L (.call ⟨.builtin .len, #[x], #[T]⟩) ty (Is (.int .i64 n)) No :=
  .val fun ρ w dst pos after guard hρ hT => by
    have h1 : (Builtin.len_ #[T] ty #[.slice a n c]).run P w = .ok (.int .i64 n) w := by simp [Builtin.len_, run_underlying hu, goInt]
    simp [execOp, hρ _ _ hx, go_sem, Builtin.len_, run_underlying hu, goInt]
theorem e_lens {T : TypeId} {x : Operand} {s : ByteArray} (hu : P.underlying T = some .string) (hx : opv U x = some (.string s)) : Ev P U w0 L0 L (.call ⟨.builtin .len, #[x], #[T]⟩) ty (Is (.int .i64 s.size)) No :=
  .val fun ρ w dst pos after guard hρ hT => by
    simp [execOp, hρ _ _ hx, go_sem, Builtin.len_, run_underlying hu, goInt]
/-- A cell that was there when the call began, in a call that turns nothing. -/
theorem e_load_old {T : TypeId} {x : Operand} {b off : Nat} {v : Value} (hA : ∀ w, (isAgg T).run P w = .ok false w) (hx : opv U x = some (.pointer (some ⟨b, off, none⟩))) (hc : w0.cell? ⟨b, off, none⟩ = some v) :
    Ev P U w0 [] L (.load T x) ty (Is v) No := e_load0 hA hx hc
theorem run_cellsf {w : World} {b off : Nat} {vs : List Value} (h : ∀ j v, vs[j]? = some v → w.cell? ⟨b, off + j, none⟩ = some v) : (loadCells ⟨b, off, none⟩ vs.length).run P w = .ok vs.toArray w :=
  run_loadCells_list w _ vs fun j v hj => by rw [add_addr]; exact h j v hj
theorem e_loadsw {T n : Nat} {x : Operand} {b off : Nat} {vs : List Value} (hA : ∀ w, (isAgg T).run P w = .ok true w) (hS : ∀ w, (sizeOf T).run P w = .ok n w) (hx : opv U x = some (.pointer (some ⟨b, off, none⟩))) (h : ∀ w, Tr w0 L0 w L → ∀ j v, vs[j]? = some v → w.cell? ⟨b, off + j, none⟩ = some v) (hl : vs.length = n) :
    Ev P U w0 L0 L (.load T x) ty (Is (.agg vs.toArray)) No :=
  .val fun ρ w dst pos after guard hρ hT => by
    subst hl
    have := run_cellsf (P := P) (h w hT)
    unfold loadCells at this
    simp [execOp, hρ _ _ hx, go_sem, hA, hS, this]
theorem e_loads_old {T n : Nat} {x : Operand} {b off : Nat} {vs : List Value} (hA : ∀ w, (isAgg T).run P w = .ok true w) (hS : ∀ w, (sizeOf T).run P w = .ok n w) (hx : opv U x = some (.pointer (some ⟨b, off, none⟩))) (h : ∀ j v, vs[j]? = some v → w0.cell? ⟨b, off + j, none⟩ = some v) (hl : vs.length = n) :
    Ev P U w0 [] L (.load T x) ty (Is (.agg vs.toArray)) No := e_loadsw hA hS hx (fun w hT j v hj => hT.cell0 (h j v hj)) hl
/-- Two structs, two arrays. -/
theorem e_eqA {T Y : TypeId} {x y : Operand} {xs ys : List Value} {b : Bool} (hg : P.eqGuardType P.depth T = false) (hx : opv U x = some (.agg xs.toArray)) (hy : opv U y = some (.agg ys.toArray)) (h : ∀ w, (Op.equalIn 10000 T (.agg xs.toArray) (.agg ys.toArray)).run P w = .ok b w) : Ev P U w0 L0 L (.binOp .eql T x y Y) ty (Is (.bool b)) No :=
  .val fun ρ w dst pos after guard hρ hT => by
    simp [execOp, hρ _ _ hx, hρ _ _ hy, go_sem, eqGuard, hg, program, Sem.run, h]
theorem e_neA {T Y : TypeId} {x y : Operand} {xs ys : List Value} {b : Bool} (hg : P.eqGuardType P.depth T = false) (hx : opv U x = some (.agg xs.toArray)) (hy : opv U y = some (.agg ys.toArray)) (h : ∀ w, (Op.equalIn 10000 T (.agg xs.toArray) (.agg ys.toArray)).run P w = .ok b w) : Ev P U w0 L0 L (.binOp .neq T x y Y) ty (Is (.bool (!b))) No :=
  .val fun ρ w dst pos after guard hρ hT => by
    simp [execOp, hρ _ _ hx, hρ _ _ hy, go_sem, eqGuard, hg, program, Sem.run, h]
/-- Numbers from kind to kind. -/
theorem e_convw {S D : TypeId} {x : Operand} {k k' : IntKind} {a : Int} {d : TypeDesc} (hs : P.underlying S = some d) (hu : P.underlying D = some (.int k')) (hx : opv U x = some (.int k a)) : Ev P U w0 L0 L (.convert S D x) ty (Is (.int k' (k'.wrap a))) No :=
  .val fun ρ w dst pos after guard hρ hT => by
    simp [execOp, hρ _ _ hx, convert, run_underlying hs, run_underlying hu, Conv.intToInt, go_sem]
theorem e_conv {S D : TypeId} {x : Operand} {k k' : IntKind} {a : Int} {d : TypeDesc} (hs : P.underlying S = some d) (hu : P.underlying D = some (.int k')) (hx : opv U x = some (.int k a)) (h : k'.wrap a = a) : Ev P U w0 L0 L (.convert S D x) ty (Is (.int k' a)) No := (e_convw hs hu hx).cast_int h
theorem wrap_i64 {a : Int} (h1 : -9223372036854775808 ≤ a) (h2 : a ≤ 9223372036854775807) : IntKind.i64.wrap a = a := wrap64_of ⟨h1, h2⟩
theorem wrap_u8 {a : Int} (h1 : 0 ≤ a) (h2 : a ≤ 255) : IntKind.u8.wrap a = a := by simp [IntKind.wrap, IntKind.bits, IntKind.signed]; omega
theorem wrap_u16 {a : Int} (h1 : 0 ≤ a) (h2 : a ≤ 65535) : IntKind.u16.wrap a = a := by simp [IntKind.wrap, IntKind.bits, IntKind.signed]; omega
theorem wrap_u32 {a : Int} (h1 : 0 ≤ a) (h2 : a ≤ 4294967295) : IntKind.u32.wrap a = a := by simp [IntKind.wrap, IntKind.bits, IntKind.signed]; omega
/-- A remainder of any kind without a sign. -/
theorem e_remk {T Y : TypeId} {x y : Operand} {k : IntKind} {a b : Int} (hx : opv U x = some (.int k a)) (hy : opv U y = some (.int k b)) (h1 : 0 ≤ a) (h2 : 0 < b) (h3 : k.wrap (a % b) = a % b) : Ev P U w0 L0 L (.binOp .rem T x y Y) ty (Is (.int k (a % b))) No :=
  .val fun ρ w dst pos after guard hρ hT => by
    have h4 : b ≠ 0 := by omega
    have h5 : a.tmod b = a % b := Int.tmod_eq_emod_of_nonneg h1
    cases k <;> simp_all [execOp, hρ _ _ hx, hρ _ _ hy, go_sem]
/-! ### New slices -/
def zeros (z : List Value) : Nat → List Value
  | 0 => []
  | n + 1 => z ++ zeros z n
theorem zeros_length (z : List Value) : ∀ n, (zeros z n).length = n * z.length
  | 0 => by simp [zeros]
  | n + 1 => by simp [zeros, zeros_length z n, Nat.succ_mul, Nat.add_comm]
theorem zeros_get (z : List Value) (hz : 0 < z.length) : ∀ (n j : Nat), j < n * z.length → (zeros z n)[j]? = z[j % z.length]?
  | 0, j, h => by simp at h
  | n + 1, j, h => by
    simp only [zeros]
    by_cases hj : j < z.length
    · rw [List.getElem?_append_left hj, Nat.mod_eq_of_lt hj]
    · rw [List.getElem?_append_right (by omega), zeros_get z hz n (j - z.length) (by rw [Nat.succ_mul] at h; omega), Nat.mod_eq_sub_mod (a := j) (by omega)]
theorem made_zeros (z : List Value) (hz : 0 < z.length) (n : Nat) : (Array.range (n * z.length)).map (fun j => z.toArray[j % z.toArray.size]!) = (zeros z n).toArray := by
  apply Array.ext_getElem?
  intro j
  simp only [Array.getElem?_map, List.getElem?_toArray]
  by_cases hj : j < n * z.length
  · have hm : j % z.length < z.length := Nat.mod_lt _ hz
    rw [zeros_get z hz n j hj]
    simp [Array.getElem?_range, hj, hm]
  · rw [List.getElem?_eq_none (by rw [zeros_length]; omega)]
    simp [hj]
/-- What a new slice's elements are: their type, their zero's cells, their bytes. -/
def mkOf (P : Program) (T : TypeId) : Option (TypeId × List Value × Nat) :=
  match P.underlying T with
  | some (.slice e) => match P.info? e with
    | some it => match it.zero with
      | some z => if it.size = z.cells.size ∧ 0 < z.cells.size then some (e, z.cells.toList, it.bytes) else none
      | none => none
    | none => none
  | _ => none
theorem mkOf_spec {T E : TypeId} {z : List Value} {n : Nat} (h : mkOf P T = some (E, z, n)) : ∃ it zv, P.underlying T = some (.slice E) ∧ P.info? E = some it ∧ it.zero = some zv ∧ zv.cells = z.toArray ∧ it.size = z.length ∧ 0 < z.length ∧ it.bytes = n := by
  unfold mkOf at h
  split at h
  · rename_i e hu
    split at h
    · rename_i it hit
      split at h
      · rename_i zv hz
        split at h
        · rename_i hc
          simp only [Option.some.injEq, Prod.mk.injEq] at h
          obtain ⟨h1, h2, h3⟩ := h
          subst h1 h2 h3
          exact ⟨it, zv, hu, hit, hz, by simp, by simpa using hc.1, by simpa using hc.2, rfl⟩
        · simp at h
      · simp at h
    · simp at h
  · simp at h
theorem e_make {T E : TypeId} {x y : Operand} {kl kc : IntKind} {l c : Int} {z : List Value} {n : Nat} (hm : mkOf P T = some (E, z, n)) (hx : opv U x = some (.int kl l)) (hy : opv U y = some (.int kc c)) (h0 : 0 ≤ l) (hlc : l ≤ c) (hb : (n : Int) * c ≤ 281474976710656) (h63 : c ≤ 9223372036854775807) :
    Ev P U w0 L0 L (.makeSlice T x y) ty (fun u => ∃ b, u = .slice (some ⟨b, 0, none⟩) l.toNat c.toNat) (atPtr fun b => cl b E (zeros z c.toNat)) := by
  intro ρ w dst pos after guard hρ hT
  obtain ⟨it, zv, h1, h2, h3, h4, h5, h6, h7⟩ := mkOf_spec hm
  subst h7
  have hr := run_make (P := P) w T E it zv h1 h2 h3 kl kc l c h0 hlc hb h63
  have : (execOp ρ ⟨dst, .makeSlice T x y, ty, pos, after, guard⟩).run P w = .ok (.value (.slice (some ⟨w.heap.size, 0, none⟩) l.toNat c.toNat)) { w with heap := w.heap.push (.cells (zeros z c.toNat).toArray E) } := by
    simp only [execOp, hρ _ _ hx, hρ _ _ hy, Sem.run_bind, hr, Result.andThen_ok, h4, h5]
    rw [← made_zeros z h6]
    rfl
  rw [this]
  exact ⟨⟨_, rfl⟩, Tr.fresh w _⟩
theorem GL.make {d : Tmp} {T E : TypeId} {x y : Operand} {kl kc : IntKind} {l c : Int} {z : List Value} {n : Nat} (hm : mkOf P T = some (E, z, n)) (hx : opv U x = some (.int kl l)) (hy : opv U y = some (.int kc c)) (h0 : 0 ≤ l) (hlc : l ≤ c) (hb : (n : Int) * c ≤ 281474976710656) (h63 : c ≤ 9223372036854775807) (hd : Nat.ble (d + 1) N = true)
    (hr : ∀ b, GL P ops Q rest N ((d, .slice (some ⟨b, 0, none⟩) l.toNat c.toNat) :: U) w0 L0 (cl b E (zeros z c.toNat) :: L)) : GL P ops Q (⟨some d, .makeSlice T x y, ty, pos, after, Option.none⟩ :: rest) N U w0 L0 L :=
  GL.ev (e_make hm hx hy h0 hlc hb h63) hd fun v hv => by obtain ⟨b, rfl⟩ := hv; exact hr b
/-! ### Lists of things of so many cells each -/
theorem flat_get {α : Type} (f : α → List Value) (k : Nat) (hf : ∀ x, (f x).length = k) : ∀ (l : List α) (i j : Nat) (x : α), l[i]? = some x → j < k → (l.flatMap f)[i * k + j]? = (f x)[j]?
  | [], i, j, x, h, _ => by simp at h
  | y :: l, 0, j, x, h, hj => by
    simp at h
    subst h
    simp only [List.flatMap_cons, Nat.zero_mul, Nat.zero_add]
    rw [List.getElem?_append_left (by rw [hf]; exact hj)]
  | y :: l, i + 1, j, x, h, hj => by
    simp only [List.flatMap_cons]
    rw [List.getElem?_append_right (by rw [hf, Nat.succ_mul]; omega), hf, ← flat_get f k hf l i j x (by simpa using h) hj]
    congr 1
    rw [Nat.succ_mul]; omega
theorem Sl.item {α : Type} {f : α → List Value} {k : Nat} (hf : ∀ x, (f x).length = k) {w : World} {a : Option Addr} {n : Nat} {l : List α} (h : Sl w k a n (l.flatMap f)) {i : Nat} {x : α} (hi : l[i]? = some x) :
    ∀ j v, (f x)[j]? = some v → w.cell? ⟨bk a, of_ a + i * k + j, none⟩ = some v := fun j v hj => by
  have hjk : j < k := by rw [← hf x]; exact (List.getElem?_eq_some_iff.1 hj).1
  rw [Nat.add_assoc]
  exact h.cell (i * k + j) v (by rw [flat_get f k hf l i j x hi hjk]; exact hj)
theorem flat_length {α : Type} (f : α → List Value) (k : Nat) (hf : ∀ x, (f x).length = k) (l : List α) : (l.flatMap f).length = l.length * k := by
  induction l with
  | nil => simp
  | cons x l ih => simp [ih, hf, Nat.succ_mul, Nat.add_comm]
theorem Sl.count {α : Type} {f : α → List Value} {k : Nat} (hk : 0 < k) (hf : ∀ x, (f x).length = k) {w : World} {a : Option Addr} {n : Nat} {l : List α} (h : Sl w k a n (l.flatMap f)) : l.length = n := by
  have := h.len
  rw [flat_length f k hf] at this
  exact Nat.eq_of_mul_eq_mul_right hk this
theorem get_ex {α : Type} {l : List α} {i : Nat} (h : i < l.length) : ∃ x, l[i]? = some x := ⟨l[i], List.getElem?_eq_getElem h⟩
theorem take_next {α : Type} {a b : List α} {i : Nat} {x : α} (h : a.take i = b.take i) (ha : a[i]? = some x) (hb : b[i]? = some x) : a.take (i + 1) = b.take (i + 1) := by
  rw [List.take_add_one, List.take_add_one, h, ha, hb]
end
end Go.K

namespace Go.K
open Go Go.ChangeShapes Go.WideShapes Go.ChangeAt Go.RowKit
set_option linter.unusedVariables false
theorem Tr.below {w w' : World} {L : List Res} (h : Tr w [] w' L) : Below w.heap.size w w' := ⟨h.os, h.tape, h.output, h.size, fun k hk => h.old k hk⟩
theorem trodAll_below {H : Type} {enc : TypeId × Value → H} {P : Program} (hl : laidOutB P = true) {W W' : World} (hB : Below W.heap.size W W') : ∀ {ts : List TypeId} {vs : List Value} {ds : List (DataW H)} {ps : List MemPlace},
    (∀ t ∈ ts, P.readableRec t = true ∧ t < P.types.size) → DataW.TrodAll enc P W 0 (fun _ => true) true ts vs ds ps → (∀ x ∈ ps, x.block < W.heap.size) → DataW.TrodAll enc P W' 0 (fun b => decide (b < W.heap.size)) true ts vs ds ps
  | [], vs, ds, ps, _, h, _ => by
    obtain ⟨rfl, rfl, rfl⟩ := trodAll_nil h
    exact trodAll_mk0
  | t :: ts, vs, ds, ps, ht, h, hp => by
    obtain ⟨v, vs', d, ds', p, q, rfl, rfl, rfl, h1, h2⟩ := trodAll_cons h
    refine trodAll_cons_mk (Below.trod hl (ht t List.mem_cons_self).1 (ht t List.mem_cons_self).2 h1 hB fun x hx => hp x (List.mem_append_left _ hx)) ?_
    exact trodAll_below hl hB (fun u hu => ht u (List.mem_cons_of_mem _ hu)) h2 fun x hx => hp x (List.mem_append_right _ hx)
/-- The row of a law. -/
theorem law_post {H : Type} {enc : TypeId × Value → H} {P : Program} {f : Func} {s : ChangeSpec} {W W' : World} {args : Array Value} {ds gs : List (DataW H)} {before : List MemPlace} {tb : TypeId}
    (hW : DataW.Whole enc P f.params.toList s.vars false W args.toList ds gs before) (hv : s.vars = []) (hrt : f.resultTypes = #[tb]) (htb : P.underlying tb = some .bool) (hs : gs = [] → s.fn H (ds ++ gs) = { results := [.lit (.bool true)], args := ds }) (hl : laidOutB P = true)
    (hps : f.params.toList.all (fun t => P.readableRec t && decide (t < P.types.size)) = true) (hB : Below W.heap.size W W') : s.post enc P f false true false false W args (.bool true) W' := by
  have hW' := hW
  obtain ⟨p, q, hA, hV, hpe, hfz, hnd⟩ := hW
  rw [hv] at hV
  obtain ⟨rfl, rfl⟩ := trodVars_none hV
  have hlt : ∀ x ∈ p, x.block < W.heap.size := fun x hx => hW'.lt x (by rw [hpe]; exact List.mem_append_left _ hx)
  have hA' := trodAll_below (W' := W') hl hB (fun t ht => by simpa using List.all_eq_true.1 hps t ht) hA hlt
  have hs' := hs rfl
  refine ⟨ds, [], before, [], p, [], hW', ?_, ?_, ?_, hB.frame _, fun h => by cases h⟩
  · rw [hs', hrt]
    exact trodAll_mk1 (shut_bool htb true)
  · rw [hs']; exact hA'
  · rw [hs', hv]; trivial
end Go.K
namespace Go.K
open Go
set_option linter.unusedVariables false
theorem addr_none {w : World} {a : Addr} {v : Value} (h : w.cell? a = some v) : a = ⟨a.block, a.off, none⟩ := by
  obtain ⟨b, o, s⟩ := a
  cases s with
  | none => rfl
  | some x =>
    simp only [World.cell?] at h
    split at h <;> simp at h
theorem Sl.of_ints {w : World} {a : Addr} {k : IntKind} {zs : List Int} {n : Nat} (hn : n ≤ zs.length) (h : ∀ i, i < zs.length → w.cell? (a.add i) = some (.int k (zs.getD i 0))) : Sl w 1 (some a) n ((zs.take n).flatMap fun x => [.int k x]) := by
  have hl : ((zs.take n).flatMap fun x => [Value.int k x]).length = n * 1 := by
    rw [flat_length _ 1 (fun _ => rfl)]; simp; omega
  have ha : 0 < n → a = ⟨a.block, a.off, none⟩ := fun hp => by
    have := h 0 (by omega)
    exact addr_none this
  refine ⟨hl, fun hp => by rw [ha hp]; rfl, fun j v hj => ?_⟩
  have hjn : j < n := by have := (List.getElem?_eq_some_iff.1 hj).1; omega
  have hx : (zs.take n)[j]? = some (zs.getD j 0) := by
    rw [List.getElem?_take, if_pos hjn, List.getD_eq_getElem?_getD, List.getElem?_eq_getElem (by omega)]; rfl
  have := flat_get (fun x => [Value.int k x]) 1 (fun _ => rfl) (zs.take n) j 0 _ hx (by omega)
  simp only [Nat.mul_one, Nat.add_zero] at this
  rw [this] at hj
  simp only [List.getElem?_cons_zero, Option.some.injEq] at hj
  subst hj
  have hc := h j (by omega)
  rw [ha (by omega), add_addr] at hc
  exact hc
end Go.K
