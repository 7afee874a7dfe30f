/- Bytes, strings, maps, rows that are appended to, calls that turn what they are handed; without conditions. -/
import Derived.Test.YtcphpcjcbmennaaKb
import Derived.Laws.BytesString
import Derived.ArgAppend
set_option linter.unusedVariables false
set_option linter.unusedSimpArgs false
set_option linter.unnecessarySimpa false
set_option linter.deprecated false
namespace Go.K
open Go
set_option linter.unusedVariables false
section
variable {P : Program} {ops : Array Oper} {Q : Exit → Act → World → Prop} {N : Nat} {U : Env} {w0 : World} {L0 L : List Res} {ty : TypeId} {rest : List Oper} {pos : String} {after : Array Edge}
theorem e_nilCheck {x : Operand} {p : Addr} (hx : opv U x = some (.pointer (some p))) : Ev P U w0 L0 L (.nilCheck x) ty (Is (.pointer (some p))) No :=
  .val fun ρ w dst pos after guard hρ hT => by simp [execOp, hρ _ _ hx, go_sem]
theorem e_extract {x : Operand} {vs : List Value} {i : Nat} {v : Value} (hx : opv U x = some (.tuple vs.toArray)) (hv : vs[i]? = some v) : Ev P U w0 L0 L (.extract x i) ty (Is v) No :=
  .val fun ρ w dst pos after guard hρ hT => by simp [execOp, hρ _ _ hx, Instr.extract, hv, go_sem]
section
variable {T Y : TypeId} {x y : Operand} {k k2 : IntKind} {a b : Int}
theorem e_and (hx : opv U x = some (.int k a)) (hy : opv U y = some (.int k b)) : Ev P U w0 L0 L (.binOp .and T x y Y) ty (Is (.int k (k.wrap (BitVec.ofInt k.bits a &&& BitVec.ofInt k.bits b).toNat))) No :=
  .val fun ρ w dst pos after guard hρ hT => by simp [execOp, hρ _ _ hx, hρ _ _ hy, go_sem, Op.intBits]
theorem e_xor (hx : opv U x = some (.int k a)) (hy : opv U y = some (.int k b)) : Ev P U w0 L0 L (.binOp .xor T x y Y) ty (Is (.int k (k.wrap (BitVec.ofInt k.bits a ^^^ BitVec.ofInt k.bits b).toNat))) No :=
  .val fun ρ w dst pos after guard hρ hT => by simp [execOp, hρ _ _ hx, hρ _ _ hy, go_sem, Op.intBits]
theorem e_shl (hx : opv U x = some (.int k a)) (hy : opv U y = some (.int k2 b)) (h0 : 0 ≤ b) : Ev P U w0 L0 L (.binOp .shl T x y Y) ty (Is (.int k (k.wrap (a * 2 ^ (min b.toNat k.bits))))) No :=
  .val fun ρ w dst pos after guard hρ hT => by simp [execOp, hρ _ _ hx, hρ _ _ hy, go_sem, Op.shift, if_neg (by omega : ¬ b < 0)]
theorem e_shr (hx : opv U x = some (.int k a)) (hy : opv U y = some (.int k2 b)) (h0 : 0 ≤ b) : Ev P U w0 L0 L (.binOp .shr T x y Y) ty (Is (.int k (a.fdiv (2 ^ (min b.toNat k.bits))))) No :=
  .val fun ρ w dst pos after guard hρ hT => by simp [execOp, hρ _ _ hx, hρ _ _ hy, go_sem, Op.shift, if_neg (by omega : ¬ b < 0)]
end
/-! ### Strings and bytes -/
abbrev Bytes := List UInt8
def bv (l : Bytes) : List Value := l.map fun b => .int .u8 b.toNat
def str (l : Bytes) : Value := .string ⟨l.toArray⟩
theorem bv_length (l : Bytes) : (bv l).length = l.length := by simp [bv]
theorem bv_get (l : Bytes) (i : Nat) : (bv l)[i]? = (l[i]?).map fun b => .int .u8 (b.toNat : Int) := by simp [bv]
theorem fold_bytes : ∀ (l : Bytes) (r : ByteArray), (l.map fun b => (b.toNat : Int)).foldl (fun r n => r.push (UInt8.ofNat n.toNat)) r = ⟨r.data ++ l.toArray⟩
  | [], r => by simp
  | b :: l, r => by
    simp only [List.map_cons, List.foldl_cons]
    rw [fold_bytes l]
    simp [ByteArray.push]
theorem Sl.run_load {w : World} {a : Addr} {n : Nat} {xs : List Value} (h : Sl w 1 (some a) n xs) : (loadCells a n).run P w = .ok xs.toArray w := by
  have hl := h.len
  simp only [Nat.mul_one] at hl
  by_cases hx : n = 0
  · subst hx
    obtain rfl : xs = [] := List.eq_nil_of_length_eq_zero hl
    simp [loadCells, go_sem]
  · have := h.base (by omega)
    simp only [Option.some.injEq] at this
    rw [this, ← hl]
    exact run_cellsf h.cell
theorem e_b2sw {S D E : TypeId} {x : Operand} {a : Option Addr} {n c : Nat} {l : Bytes} (hs : P.underlying S = some (.slice E)) (he : P.underlying E = some (.int .u8)) (hd : P.underlying D = some .string)
    (hx : opv U x = some (.slice a n c)) (h : ∀ w, Tr w0 L0 w L → Sl w 1 a n (bv l)) : Ev P U w0 L0 L (.convert S D x) ty (Is (str l)) No :=
  .val fun ρ w dst pos after guard hρ hT => by
    have hS := h w hT
    have : (convert S D (.slice a n c)).run P w = .ok (str l) w := by
      rw [run_convert_bytes_string w S D E a n c hs he hd]
      cases a with
      | none =>
        have hl := hS.len
        by_cases hn : 0 < n
        · exact absurd (hS.base hn) (by simp)
        · obtain rfl : n = 0 := by omega
          obtain rfl : l = [] := by simpa [bv_length] using hl
          simp [Conv.bytesToString, go_sem, str]
          rfl
      | some a =>
        have e : bv l = (l.map fun b => (b.toNat : Int)).map (Value.int .u8) := by simp [bv]
        rw [run_bytesToString w a n c (l.map fun b => (b.toNat : Int)) (by rw [← e]; exact hS.run_load), fold_bytes]
        simp [str]
    simp [execOp, hρ _ _ hx, go_sem, this]
theorem e_b2s {S D E : TypeId} {x : Operand} {b n c : Nat} {T : TypeId} {l : Bytes} (hs : P.underlying S = some (.slice E)) (he : P.underlying E = some (.int .u8)) (hd : P.underlying D = some .string)
    (hx : opv U x = some (.slice (some ⟨b, 0, none⟩) n c)) [hh : HasC L b T (bv l)] (hl : l.length = n) : Ev P U w0 L0 L (.convert S D x) ty (Is (str l)) No :=
  e_b2sw hs he hd hx fun w hT => Sl.of_block (Tr.at (b := b) hT) (by rw [bv_length, hl, Nat.mul_one])
theorem str_inj {l m : Bytes} : (str l = str m) ↔ l = m := by
  constructor
  · intro h
    simp only [str, Value.string.injEq, ByteArray.mk.injEq] at h
    simpa using congrArg Array.toList h
  · intro h; rw [h]
theorem bytes_eq {l m : Bytes} : ((⟨l.toArray⟩ : ByteArray) == ⟨m.toArray⟩) = decide (l = m) := by
  have : ((⟨l.toArray⟩ : ByteArray) == ⟨m.toArray⟩) = (l.toArray == m.toArray) := rfl
  rw [this, Bool.eq_iff_iff]
  simp
theorem beq_bytes {l m : Bytes} : (l == m) = decide (l = m) := by rw [Bool.eq_iff_iff]; simp
theorem run_equalIn_str (w : World) (d : Nat) {T : TypeId} (l m : Bytes) (hu : P.underlying T = some .string) : (Op.equalIn (d + 1) T (str l) (str m)).run P w = .ok (decide (l = m)) w := by
  simp [Op.equalIn, run_underlying hu, str, bytes_eq]
theorem e_eqs {T Y : TypeId} {x y : Operand} {l m : Bytes} (hu : P.underlying T = some .string) (hx : opv U x = some (str l)) (hy : opv U y = some (str m)) : Ev P U w0 L0 L (.binOp .eql T x y Y) ty (Is (.bool (decide (l = m)))) No :=
  .val fun ρ w dst pos after guard hρ hT => by
    have := run_equalIn_str w 9999 l m hu
    simp only [str] at this
    simp [execOp, hρ _ _ hx, hρ _ _ hy, go_sem, str, this, beq_bytes]
theorem e_nes {T Y : TypeId} {x y : Operand} {l m : Bytes} (hu : P.underlying T = some .string) (hx : opv U x = some (str l)) (hy : opv U y = some (str m)) : Ev P U w0 L0 L (.binOp .neq T x y Y) ty (Is (.bool (decide (l ≠ m)))) No :=
  .val fun ρ w dst pos after guard hρ hT => by
    have := run_equalIn_str w 9999 l m hu
    simp only [str] at this
    simp [execOp, hρ _ _ hx, hρ _ _ hy, go_sem, str, this, bne, beq_bytes]
end
end Go.K

namespace Go.K
open Go
set_option linter.unusedVariables false
/-- An entry: its key, its value, when it was laid. -/
structure ME where
  k : Int
  v : Value
  n : Nat
def ME.e (x : ME) : MapEntry := ⟨.int .i64 x.k, x.v, x.n⟩
def ments (l : List ME) : Array MapEntry := (l.map ME.e).toArray
abbrev mp (b : Nat) (l : List ME) (clock : Nat) : Res := pt b (.map (ments l) clock)
def mfind (k : Int) : List ME → Option Value
  | [] => none
  | x :: l => if x.k = k then some x.v else mfind k l
def mpos (k : Int) : List ME → Nat → Option (Nat × Value)
  | [], _ => none
  | x :: l, i => if x.k = k then some (i, x.v) else mpos k l (i + 1)
def mset (k : Int) (v : Value) : List ME → List ME
  | [] => []
  | x :: l => if x.k = k then ⟨k, v, x.n⟩ :: l else x :: mset k v l
def mput (k : Int) (v : Value) (l : List ME) (clock : Nat) : List ME × Nat := match mfind k l with
  | some _ => (mset k v l, clock)
  | none => (l ++ [⟨k, v, clock⟩], clock + 1)
theorem mpos_find (k : Int) : ∀ (l : List ME) (i : Nat), (mpos k l i).map (·.2) = mfind k l
  | [], i => rfl
  | x :: l, i => by
    simp only [mpos, mfind]
    split
    · rfl
    · exact mpos_find k l (i + 1)
theorem findNow_ints (k : Int) : ∀ (l : List ME) (i : Nat), Instr.findNow (.int .i64) (.int .i64 k) (l.map ME.e) i = some (mpos k l i)
  | [], i => rfl
  | x :: l, i => by
    simp only [List.map_cons, Instr.findNow, ME.e, Instr.sameNow, if_true]
    by_cases h : x.k = k
    · subst h; simp [mpos]
    · have : (k == x.k) = false := by simp; omega
      rw [this]
      simp only [mpos, if_neg h]
      exact findNow_ints k l (i + 1)
section
variable {P : Program} {ops : Array Oper} {Q : Exit → Act → World → Prop} {N : Nat} {U : Env} {w0 : World} {L0 L : List Res} {ty : TypeId} {rest : List Oper} {pos : String} {after : Array Edge}
theorem run_findKey {w : World} {K : TypeId} {k : Int} {l : List ME} (hK : P.underlying K = some (.int .i64)) : (Instr.findKey K (.int .i64 k) (ments l).toList).run P w = .ok (mpos k l 0) w := by
  simp [Instr.findKey, run_underlying hK, ments, findNow_ints, go_sem]
theorem run_checkKey {w : World} {K : TypeId} {k : Int} {b : Bool} {n : Nat} (hK : P.underlying K = some (.int .i64)) : (Instr.checkKey b (n + 1) K (.int .i64 k)).run P w = .ok () w := by
  simp [Instr.checkKey, run_underlying hK, go_sem]
class HasM (L : List Res) (b : Nat) (l : outParam (List ME)) (c : outParam Nat) : Prop where
  mem : mp b l c ∈ L
instance HasM.tail {L : List Res} {r : Res} {b : Nat} {l : List ME} {c : Nat} [h : HasM L b l c] : HasM (r :: L) b l c := ⟨List.mem_cons_of_mem _ h.mem⟩
instance HasM.head {L : List Res} {b : Nat} {l : List ME} {c : Nat} : HasM (mp b l c :: L) b l c := ⟨List.mem_cons_self⟩
/-- One resource is another one on the same block. -/
class SetR (L : List Res) (b : Nat) (o : outParam Obj) (o' : Obj) (L' : outParam (List Res)) : Prop where
  out : ∃ i, L[i]? = some (pt b o) ∧ L' = L.set i (pt b o')
instance SetR.tail {L L' : List Res} {r : Res} {b : Nat} {o o' : Obj} [h : SetR L b o o' L'] : SetR (r :: L) b o o' (r :: L') := ⟨by
  obtain ⟨i, h1, h2⟩ := h.out
  exact ⟨i + 1, by simpa using h1, by simp [h2]⟩⟩
instance SetR.head {L : List Res} {b : Nat} {o o' : Obj} : SetR (pt b o :: L) b o o' (pt b o' :: L) := ⟨0, by simp⟩
theorem run_getObj_map {w : World} {b : Nat} {es : Array MapEntry} {c : Nat} (h : w.heap[b]? = some (.map es c)) : (getObj b).run P w = .ok (.map es c) w := by
  simp [getObj, Sem.run, h]
theorem run_getObj_it {w : World} {b : Nat} {m : Option Nat} {s l : Nat} {seen : Array Nat} (h : w.heap[b]? = some (.mapIter m s seen l)) : (getObj b).run P w = .ok (.mapIter m s seen l) w := by
  simp [getObj, Sem.run, h]
theorem run_setObj_map {w : World} {b : Nat} {es : Array MapEntry} {c : Nat} {o : Obj} (h : w.heap[b]? = some (.map es c)) : (setObj b o).run P w = .ok () { w with heap := w.heap.setIfInBounds b o } := by
  simp [setObj, Sem.run, h]
theorem run_setObj_it {w : World} {b : Nat} {m : Option Nat} {s l : Nat} {seen : Array Nat} {o : Obj} (h : w.heap[b]? = some (.mapIter m s seen l)) : (setObj b o).run P w = .ok () { w with heap := w.heap.setIfInBounds b o } := by
  simp [setObj, Sem.run, h]
theorem Tr.setObj {w0 w : World} {L0 L L' : List Res} {b : Nat} {o o' : Obj} (h : Tr w0 L0 w L) [hs : SetR L b o o' L'] : Tr w0 L0 { w with heap := w.heap.setIfInBounds b o' } L' := by
  obtain ⟨i, h1, h2⟩ := hs.out
  have hb : w.heap[b]? = some o := h.ok _ (List.mem_of_getElem? h1)
  have hlt := (Array.getElem?_eq_some_iff.1 hb).1
  subst h2
  exact h.put h1 (.set rfl rfl rfl (Nat.le_refl _) (by simp [Array.getElem?_setIfInBounds, hlt]) (by simp) fun k hk => by simp [Array.getElem?_setIfInBounds, Ne.symm hk])
theorem Tr.atM {w0 w : World} {L0 L : List Res} {b : Nat} {l : List ME} {c : Nat} (h : Tr w0 L0 w L) [hs : HasM L b l c] : w.heap[b]? = some (.map (ments l) c) := h.ok _ hs.mem
/-- The entry of a key; that there is none. -/
theorem e_lookup {T K E : TypeId} {x y : Operand} {b : Nat} {k : Int} {l : List ME} {c : Nat} {z : Value} (ht : P.underlying T = some (.map K E)) (hK : P.underlying K = some (.int .i64)) (hz : ∀ w, (zeroValue E).run P w = .ok z w)
    (hx : opv U x = some (.map (some b))) (hy : opv U y = some (.int .i64 k)) [hh : HasM L b l c] : Ev P U w0 L0 L (.lookup T x y true) ty (Is (match mfind k l with | some v => .tuple #[v, .bool true] | none => .tuple #[z, .bool false])) No :=
  .val fun ρ w dst pos after guard hρ hT => by
    have hb := Tr.atM (b := b) hT
    have hf := mpos_find k l 0
    simp only [execOp, hρ _ _ hx, hρ _ _ hy, Instr.lookup, Sem.run_bind, run_underlying ht, Result.andThen_ok, run_getObj_map hb, run_checkKey hK, run_findKey hK]
    cases h : mpos k l 0 with
    | none => rw [h] at hf; simp only [Option.map_none] at hf; simp [← hf, hz, go_sem, run_findKey hK, h, run_getObj_map hb, run_checkKey hK]
    | some r => rw [h] at hf; simp only [Option.map_some] at hf; simp [← hf, go_sem, run_findKey hK, h, run_getObj_map hb, run_checkKey hK]
theorem e_lookup1 {T K E : TypeId} {x y : Operand} {b : Nat} {k : Int} {l : List ME} {c : Nat} {z : Value} (ht : P.underlying T = some (.map K E)) (hK : P.underlying K = some (.int .i64)) (hz : ∀ w, (zeroValue E).run P w = .ok z w)
    (hx : opv U x = some (.map (some b))) (hy : opv U y = some (.int .i64 k)) [hh : HasM L b l c] : Ev P U w0 L0 L (.lookup T x y false) ty (Is ((mfind k l).getD z)) No :=
  .val fun ρ w dst pos after guard hρ hT => by
    have hb := Tr.atM (b := b) hT
    have hf := mpos_find k l 0
    simp only [execOp, hρ _ _ hx, hρ _ _ hy, Instr.lookup, Sem.run_bind, run_underlying ht, Result.andThen_ok, run_getObj_map hb, run_checkKey hK, run_findKey hK]
    cases h : mpos k l 0 with
    | none => rw [h] at hf; simp only [Option.map_none] at hf; simp [← hf, hz, go_sem, run_findKey hK, h, run_getObj_map hb, run_checkKey hK]
    | some r => rw [h] at hf; simp only [Option.map_some] at hf; simp [← hf, go_sem, run_findKey hK, h, run_getObj_map hb, run_checkKey hK]
/-- An operation that gives nothing, and turns what there is. -/
theorem GL.turn {o : Op} {L' : List Res} (h : ∀ (ρ : Operand → Value) (w : World) (pos : String) (after : Array Edge), (∀ x v, opv U x = some v → ρ x = v) → Tr w0 L0 w L →
      ∃ w', (execOp ρ ⟨Option.none, o, ty, pos, after, Option.none⟩).run P w = .ok .skip w' ∧ Tr w0 L0 w' L')
    (hr : GL P ops Q rest N U w0 L0 L') : GL P ops Q (⟨Option.none, o, ty, pos, after, Option.none⟩ :: rest) N U w0 L0 L := by
  intro a w hE hT
  refine wpList_plain rfl fun K hK => ?_
  obtain ⟨w', h1, h2⟩ := h a.eval w pos after hE.op hT
  unfold Oper.wp
  rw [h1, Oper.upon_skip]
  exact hK _ _ (hr _ _ hE h2)
theorem mpos_spec (k : Int) (v : Value) : ∀ (l : List ME) (i j : Nat) (u : Value), mpos k l i = some (j, u) → i ≤ j ∧ j - i < l.length ∧
    ((ments l).modify (j - i) fun e => { e with key := .int .i64 k, val := v }) = ments (mset k v l) ∧ ((ments l)[j - i]?).map (·.key) = some (.int .i64 k)
  | [], i, j, u, h => by simp [mpos] at h
  | x :: l, i, j, u, h => by
    simp only [mpos] at h
    split at h
    · rename_i hk
      simp only [Option.some.injEq, Prod.mk.injEq] at h
      obtain ⟨rfl, rfl⟩ := h
      refine ⟨Nat.le_refl _, by simp, ?_, ?_⟩
      · simp [ments, mset, hk, ME.e]
      · simp [ments, ME.e, hk]
    · rename_i hk
      obtain ⟨h1, h2, h3, h4⟩ := mpos_spec k v l (i + 1) j u h
      obtain ⟨d, rfl⟩ : ∃ d, j = i + 1 + d := ⟨j - (i + 1), by omega⟩
      have e1 : i + 1 + d - (i + 1) = d := by omega
      have e2 : i + 1 + d - i = d + 1 := by omega
      rw [e1] at h2 h3 h4
      rw [e2]
      refine ⟨by omega, by simp; omega, ?_, ?_⟩
      · simp only [mset, if_neg hk]
        simp only [ments, List.map_cons, List.modify_toArray, Array.mk.injEq] at h3 ⊢
        simpa using h3
      · simpa [ments] using h4
theorem GL.mapUpdate {T K E : TypeId} {x y z : Operand} {b : Nat} {k : Int} {v : Value} {l : List ME} {c : Nat} {L' : List Res} (ht : P.underlying T = some (.map K E)) (hK : P.underlying K = some (.int .i64))
    (hx : opv U x = some (.map (some b))) (hy : opv U y = some (.int .i64 k)) (hz : opv U z = some v) [hh : HasM L b l c] [hs : SetR L b (.map (ments l) c) (.map (ments (mput k v l c).1) (mput k v l c).2) L']
    (hr : GL P ops Q rest N U w0 L0 L') : GL P ops Q (⟨Option.none, .mapUpdate T x y z, ty, pos, after, Option.none⟩ :: rest) N U w0 L0 L :=
  GL.turn (L' := L') (fun ρ w pos after hρ hT => ⟨{ w with heap := w.heap.setIfInBounds b (.map (ments (mput k v l c).1) (mput k v l c).2) }, by
    have hb := Tr.atM (b := b) hT
    have hf := mpos_find k l 0
    simp only [execOp, hρ _ _ hx, hρ _ _ hy, hρ _ _ hz, Instr.mapUpdate, Sem.run_bind, run_underlying ht, Result.andThen_ok, run_getObj_map hb, run_checkKey hK, run_findKey hK]
    cases h : mpos k l 0 with
    | none =>
      rw [h] at hf; simp only [Option.map_none] at hf
      have e : (ments l).push ⟨.int .i64 k, v, c⟩ = ments (l ++ [⟨k, v, c⟩]) := by simp [ments, ME.e]
      simp only [mput, ← hf, pure_bind, e, Sem.run_bind, run_setObj_map hb, Result.andThen_ok]
      rfl
    | some r =>
      obtain ⟨j, u⟩ := r
      rw [h] at hf; simp only [Option.map_some] at hf
      obtain ⟨h1, h2, h3, h4⟩ := mpos_spec k v l 0 j u h
      simp only [Nat.sub_zero] at h3 h4
      simp only [h4, Option.getD_some, Instr.keyThatStays, Instr.sameBits, beq_self_eq_true, Bool.and_self, if_true, pure_bind, Sem.run_bind, h3, run_setObj_map hb, mput, ← hf, Result.andThen_ok]
      rfl, Tr.setObj (b := b) hT⟩) hr
end
end Go.K

namespace Go.K
open Go
set_option linter.unusedVariables false
section
variable {P : Program} {ops : Array Oper} {Q : Exit → Act → World → Prop} {N : Nat} {U : Env} {w0 : World} {L0 L : List Res} {ty : TypeId} {rest : List Oper} {pos : String} {after : Array Edge}
theorem e_makeMap {T : TypeId} : Ev P U w0 L0 L (.makeMap T none) ty (fun u => ∃ b, u = .map (some b)) (atPtr fun b => mp b [] 0) := by
  intro ρ w dst pos after guard hρ hT
  have : (execOp ρ ⟨dst, .makeMap T none, ty, pos, after, guard⟩).run P w = .ok (.value (.map (some w.heap.size))) { w with heap := w.heap.push (.map #[] 0) } := by
    simp only [execOp, Option.map_none]
    rfl
  rw [this]
  exact ⟨⟨_, rfl⟩, Tr.fresh w _⟩
theorem GL.makeMap {d : Tmp} {T : TypeId} (hd : Nat.ble (d + 1) N = true) (hr : ∀ b, GL P ops Q rest N ((d, .map (some b)) :: U) w0 L0 (mp b [] 0 :: L)) :
    GL P ops Q (⟨some d, .makeMap T none, ty, pos, after, Option.none⟩ :: rest) N U w0 L0 L :=
  GL.ev e_makeMap hd fun v hv => by obtain ⟨b, rfl⟩ := hv; exact hr b
theorem e_lenm {T : TypeId} {x : Operand} {b : Nat} {K E : TypeId} {l : List ME} {c : Nat} (hu : P.underlying T = some (.map K E)) (hx : opv U x = some (.map (some b))) [hh : HasM L b l c] : Ev P U w0 L0 L (.call ⟨.builtin .len, #[x], #[T]⟩) ty (Is (.int .i64 l.length)) No :=
  .val fun ρ w dst pos after guard hρ hT => by
    have hb := Tr.atM (b := b) hT
    simp [execOp, hρ _ _ hx, go_sem, Builtin.len_, run_underlying hu, run_getObj_map hb, ments]
theorem run_clear {ρ : Operand → Value} {w : World} {dst : Option Tmp} {guard : Option (Nat × Bool)} {T K E : TypeId} {x : Operand} {b : Nat} {l : List ME} {c : Nat} (ht : P.underlying T = some (.map K E)) (hx : ρ x = .map (some b)) (hb : w.heap[b]? = some (.map (ments l) c)) :
    (execOp ρ ⟨dst, .call ⟨.builtin .clear, #[x], #[T]⟩, ty, pos, after, guard⟩).run P w = .ok (.value (.tuple #[])) { w with heap := w.heap.setIfInBounds b (.map (ments []) c) } := by
  simp [execOp, hx, go_sem, Builtin.clear_, run_underlying ht, run_getObj_map hb, run_setObj_map hb]
  rfl
theorem GL.clear {T K E : TypeId} {x : Operand} {b : Nat} {l : List ME} {c : Nat} {L' : List Res} (ht : P.underlying T = some (.map K E)) (hx : opv U x = some (.map (some b))) [hh : HasM L b l c] [hs : SetR L b (.map (ments l) c) (.map (ments []) c) L']
    (hr : GL P ops Q rest N U w0 L0 L') : GL P ops Q (⟨Option.none, .call ⟨.builtin .clear, #[x], #[T]⟩, ty, pos, after, Option.none⟩ :: rest) N U w0 L0 L := by
  intro a w hE hT
  refine wpList_plain rfl fun K hK => ?_
  have hb := Tr.atM (b := b) hT
  have h1 := run_clear (P := P) (ρ := a.eval) (ty := ty) (pos := pos) (after := after) (dst := Option.none) (guard := Option.none) ht (hE.op _ _ hx) hb
  unfold Oper.wp
  rw [h1]
  exact hK _ _ (hr _ _ hE (Tr.setObj (b := b) hT))
def mdel (k : Int) : List ME → List ME
  | [] => []
  | x :: l => if x.k = k then l else x :: mdel k l
theorem mpos_del (k : Int) : ∀ (l : List ME) (i j : Nat) (u : Value), mpos k l i = some (j, u) → i ≤ j ∧ (ments l).eraseIdxIfInBounds (j - i) = ments (mdel k l)
  | [], i, j, u, h => by simp [mpos] at h
  | x :: l, i, j, u, h => by
    simp only [mpos] at h
    split at h
    · rename_i hk
      simp only [Option.some.injEq, Prod.mk.injEq] at h
      obtain ⟨rfl, rfl⟩ := h
      exact ⟨Nat.le_refl _, by simp [ments, mdel, hk, Array.eraseIdxIfInBounds]⟩
    · rename_i hk
      obtain ⟨h1, h3⟩ := mpos_del k l (i + 1) j u h
      obtain ⟨d, rfl⟩ : ∃ d, j = i + 1 + d := ⟨j - (i + 1), by omega⟩
      have e1 : i + 1 + d - (i + 1) = d := by omega
      have e2 : i + 1 + d - i = d + 1 := by omega
      rw [e1] at h3
      rw [e2]
      refine ⟨by omega, ?_⟩
      simp only [mdel, if_neg hk]
      simp only [ments, List.map_cons, List.eraseIdxIfInBounds_toArray, List.eraseIdx_cons_succ] at h3 ⊢
      have := congrArg Array.toList h3
      simp only at this
      rw [this]
theorem mdel_none (k : Int) : ∀ (l : List ME), mfind k l = none → mdel k l = l
  | [], _ => rfl
  | x :: l, h => by
    simp only [mfind] at h
    split at h
    · simp at h
    · rename_i hk
      simp only [mdel, if_neg hk]
      rw [mdel_none k l h]
theorem run_delete {ρ : Operand → Value} {w : World} {dst : Option Tmp} {guard : Option (Nat × Bool)} {T T2 K E : TypeId} {x y : Operand} {b : Nat} {k : Int} {l : List ME} {c : Nat} (ht : P.underlying T = some (.map K E)) (hK : P.underlying K = some (.int .i64)) (hx : ρ x = .map (some b)) (hy : ρ y = .int .i64 k) (hb : w.heap[b]? = some (.map (ments l) c)) :
    (execOp ρ ⟨dst, .call ⟨.builtin .delete, #[x, y], #[T, T2]⟩, ty, pos, after, guard⟩).run P w = .ok (.value (.tuple #[])) { w with heap := w.heap.setIfInBounds b (.map (ments (mdel k l)) c) } := by
  have hf := mpos_find k l 0
  cases h : mpos k l 0 with
  | none =>
    rw [h] at hf; simp only [Option.map_none] at hf
    simp [execOp, hx, hy, go_sem, Builtin.delete_, run_underlying ht, run_getObj_map hb, run_setObj_map hb, run_checkKey hK, run_findKey hK, h, mdel_none k l hf.symm]
  | some r =>
    obtain ⟨j, u⟩ := r
    obtain ⟨h1, h2⟩ := mpos_del k l 0 j u h
    simp only [Nat.sub_zero] at h2
    simp [execOp, hx, hy, go_sem, Builtin.delete_, run_underlying ht, run_getObj_map hb, run_setObj_map hb, run_checkKey hK, run_findKey hK, h, h2]
theorem GL.delete {T T2 K E : TypeId} {x y : Operand} {b : Nat} {k : Int} {l : List ME} {c : Nat} {L' : List Res} (ht : P.underlying T = some (.map K E)) (hK : P.underlying K = some (.int .i64)) (hx : opv U x = some (.map (some b))) (hy : opv U y = some (.int .i64 k))
    [hh : HasM L b l c] [hs : SetR L b (.map (ments l) c) (.map (ments (mdel k l)) c) L']
    (hr : GL P ops Q rest N U w0 L0 L') : GL P ops Q (⟨Option.none, .call ⟨.builtin .delete, #[x, y], #[T, T2]⟩, ty, pos, after, Option.none⟩ :: rest) N U w0 L0 L := by
  intro a w hE hT
  refine wpList_plain rfl fun K' hK' => ?_
  have hb := Tr.atM (b := b) hT
  have h1 := run_delete (P := P) (ρ := a.eval) (ty := ty) (pos := pos) (after := after) (dst := Option.none) (guard := Option.none) (T2 := T2) ht hK (hE.op _ _ hx) (hE.op _ _ hy) hb
  unfold Oper.wp
  rw [h1]
  exact hK' _ _ (hr _ _ hE (Tr.setObj (b := b) hT))
end
end Go.K

namespace Go.K
open Go
set_option linter.unusedVariables false
section
variable {P : Program} {ops : Array Oper} {Q : Exit → Act → World → Prop} {N : Nat} {U : Env} {w0 : World} {L0 L : List Res} {ty : TypeId} {rest : List Oper} {pos : String} {after : Array Edge}
/-! ### Ranges over maps -/
abbrev iter (r m : Nat) (seen : List Nat) (c : Nat) : Res := pt r (.mapIter (some m) c seen.toArray c)
theorem GL.range {d : Tmp} {T K E : TypeId} {x : Operand} {m : Nat} {l : List ME} {c : Nat} (ht : P.underlying T = some (.map K E)) (hx : opv U x = some (.map (some m))) [hh : HasM L m l c] (hd : Nat.ble (d + 1) N = true)
    (hr : ∀ b, GL P ops Q rest N ((d, .pointer (some ⟨b, 0, none⟩)) :: U) w0 L0 (iter b m [] c :: L)) : GL P ops Q (⟨some d, .range T x, ty, pos, after, Option.none⟩ :: rest) N U w0 L0 L := by
  have h : Ev P U w0 L0 L (.range T x) ty (fun u => ∃ b, u = .pointer (some ⟨b, 0, none⟩)) (atPtr fun b => iter b m [] c) := by
    intro ρ w dst pos after guard hρ hT
    have hb := Tr.atM (b := m) hT
    have : (execOp ρ ⟨dst, .range T x, ty, pos, after, guard⟩).run P w = .ok (.value (.pointer (some ⟨w.heap.size, 0, none⟩))) { w with heap := w.heap.push (.mapIter (some m) c #[] c) } := by
      simp only [execOp, hρ _ _ hx, Instr.range, Sem.run_bind, run_underlying ht, Result.andThen_ok, run_getObj_map hb]
      rfl
    rw [this]
    exact ⟨⟨_, rfl⟩, Tr.fresh w _⟩
  exact GL.ev h hd fun v hv => by obtain ⟨b, rfl⟩ := hv; exact hr b
theorem run_choose_next {w : World} {n : Nat} (hn : 0 < n) : ∃ j w1, j < n ∧ (choose (.mapNext n)).run P w = .ok j w1 ∧ (w1 = w ∨ w1 = { w with drawn := w.drawn + 1 }) := by
  rw [run_choose]
  split
  · exact ⟨0, w, hn, rfl, .inl rfl⟩
  · exact ⟨_, _, Nat.mod_lt _ hn, rfl, .inr rfl⟩
theorem run_next {w : World} {r m c : Nat} {l : List ME} {seen : List Nat} (hm : w.heap[m]? = some (.map (ments l) c)) (hr : w.heap[r]? = some (.mapIter (some m) c seen.toArray c)) (hlt : ∀ x ∈ l, x.n < c) {ty : TypeId} :
    ∃ w1, (w1 = w ∨ w1 = { w with drawn := w.drawn + 1 }) ∧
      (((∀ x ∈ l, x.n ∈ seen) ∧ (Instr.next (.pointer (some ⟨r, 0, none⟩)) false ty).run P w = .ok (.tuple #[.bool false]) w1) ∨
       (∃ x ∈ l, x.n ∉ seen ∧ (Instr.next (.pointer (some ⟨r, 0, none⟩)) false ty).run P w = .ok (.tuple #[.bool true, .int .i64 x.k, x.v]) { w1 with heap := w1.heap.setIfInBounds r (.mapIter (some m) c (seen ++ [x.n]).toArray c) })) := by
  let left : List ME := l.filter fun x => !seen.contains x.n
  have hleft : (ments l).filter (fun e => !seen.toArray.contains e.born) = ments left := by
    simp only [ments, left, List.filter_toArray, Array.mk.injEq, List.contains_toArray]
    rw [List.filter_map]
    rfl
  have hold : (ments left).filter (fun e => decide (e.born < c)) = ments left := by
    simp only [ments, List.filter_toArray, Array.mk.injEq]
    rw [List.filter_eq_self]
    intro e he
    obtain ⟨x, hx, rfl⟩ := List.mem_map.1 he
    exact decide_eq_true (hlt x (List.mem_filter.1 hx).1)
  have hnew : (ments left).filter (fun e => decide (e.born ≥ c)) = #[] := by
    simp only [ments, List.filter_toArray, Array.mk.injEq]
    rw [List.filter_eq_nil_iff.2]
    intro e he
    obtain ⟨x, hx, rfl⟩ := List.mem_map.1 he
    have := hlt x (List.mem_filter.1 hx).1
    simp only [ME.e, ge_iff_le, decide_eq_true_eq]
    omega
  have hall : (!seen.toArray.isEmpty && !(ments l).isEmpty && (ments l).all (fun e => decide (e.born ≥ c))) = false := by
    cases hl : l with
    | nil => simp [ments]
    | cons x l' =>
      have := hlt x (by rw [hl]; exact List.mem_cons_self)
      have : decide (x.n ≥ c) = false := by simp; omega
      simp [ments, ME.e]
      intro _ h
      omega
  have hn : 0 < ((if (ments left).isEmpty then #[none] else #[]) ++ (ments left ++ #[]).map some : Array (Option MapEntry)).size := by
    cases hl : left with
    | nil => simp [ments]
    | cons x l' => simp [ments]
  obtain ⟨j, w1, hj, hc, hw⟩ := run_choose_next (P := P) (w := w) hn
  have hr1 : w1.heap[r]? = some (.mapIter (some m) c seen.toArray c) := by rcases hw with rfl | rfl <;> exact hr
  refine ⟨w1, hw, ?_⟩
  cases hl : left with
  | nil =>
    refine .inl ⟨fun x hx => ?_, ?_⟩
    · have : x ∉ left := by rw [hl]; simp
      simp only [left, List.mem_filter, not_and] at this
      have := this hx
      simpa using this
    · have hj0 : j = 0 := by rw [hl] at hj; simp [ments] at hj; omega
      subst hj0
      simp only [Instr.next, Sem.run_bind, run_getObj_it hr, Result.andThen_ok, run_getObj_map hm, hall, hleft, hold, hnew]
      rw [hl] at hc
      simp only [hl, Bool.false_eq_true, if_false, pure_bind]
      rw [Sem.run_bind, hc, Result.andThen_ok]
      simp [ments, go_sem]
  | cons x0 l0 =>
    have hj' : j < left.length := by rw [hl] at hj ⊢; simp [ments] at hj ⊢; exact hj
    obtain ⟨x, hx⟩ := get_ex hj'
    have hxm := List.mem_of_getElem? hx
    refine .inr ⟨x, (List.mem_filter.1 hxm).1, by simpa using (List.mem_filter.1 hxm).2, ?_⟩
    simp only [Instr.next, Sem.run_bind, run_getObj_it hr, Result.andThen_ok, run_getObj_map hm, hall, hleft, hold, hnew, Bool.false_eq_true, if_false, pure_bind]
    rw [hc, Result.andThen_ok]
    have hget : (((if (ments left).isEmpty then #[none] else #[]) ++ (ments left ++ #[]).map some : Array (Option MapEntry)))[j]? = some (some x.e) := by
      rw [hl] at hx ⊢
      simp only [ments, List.map_cons, List.isEmpty_toArray, List.isEmpty_cons, Bool.false_eq_true, if_false, Array.append_empty, List.map_toArray, Array.empty_append, List.getElem?_toArray]
      rw [← List.map_cons, List.getElem?_map, ← List.map_cons, List.getElem?_map, hx]
      rfl
    rw [hget]
    simp only [Sem.run_bind, run_setObj_it hr1, Result.andThen_ok]
    simp [ME.e, go_sem]
class HasR (L : List Res) (b : Nat) (o : outParam Obj) : Prop where
  mem : pt b o ∈ L
instance HasR.tail {L : List Res} {r : Res} {b : Nat} {o : Obj} [h : HasR L b o] : HasR (r :: L) b o := ⟨List.mem_cons_of_mem _ h.mem⟩
instance HasR.head {L : List Res} {b : Nat} {o : Obj} : HasR (pt b o :: L) b o := ⟨List.mem_cons_self⟩
theorem Tr.atR {w0 w : World} {L0 L : List Res} {b : Nat} {o : Obj} (h : Tr w0 L0 w L) [hs : HasR L b o] : w.heap[b]? = some o := h.ok _ hs.mem
theorem Tr.drewOr {w0 w w1 : World} {L0 L : List Res} (h : Tr w0 L0 w L) (hw : w1 = w ∨ w1 = { w with drawn := w.drawn + 1 }) : Tr w0 L0 w1 L := by
  rcases hw with rfl | rfl
  · exact h
  · exact h.drew
theorem exec_next {ρ : Operand → Value} {w w' : World} {x : Operand} {p v : Value} {dst : Option Tmp} {guard : Option (Nat × Bool)} (hx : ρ x = p) (h : (Instr.next p false ty).run P w = .ok v w') :
    (execOp ρ ⟨dst, .next x false, ty, pos, after, guard⟩).run P w = .ok (.value v) w' := by
  simp only [execOp, hx, Sem.run_bind, h, Result.andThen_ok]
  rfl
/-- The next entry of a range: there is none left, or one that was not told yet. -/
theorem GL.next {d : Tmp} {x : Operand} {r m c : Nat} {l : List ME} {seen : List Nat} (hx : opv U x = some (.pointer (some ⟨r, 0, none⟩))) [hm : HasM L m l c] [hi : HasR L r (.mapIter (some m) c seen.toArray c)]
    (L' : Nat → List Res) [hs : ∀ n, SetR L r (.mapIter (some m) c seen.toArray c) (.mapIter (some m) c (seen ++ [n]).toArray c) (L' n)] (hlt : ∀ x ∈ l, x.n < c) (hd : Nat.ble (d + 1) N = true)
    (h1 : (∀ x ∈ l, x.n ∈ seen) → GL P ops Q rest N ((d, .tuple [.bool false].toArray) :: U) w0 L0 L)
    (h2 : ∀ x ∈ l, x.n ∉ seen → GL P ops Q rest N ((d, .tuple [.bool true, .int .i64 x.k, x.v].toArray) :: U) w0 L0 (L' x.n)) :
    GL P ops Q (⟨some d, .next x false, ty, pos, after, Option.none⟩ :: rest) N U w0 L0 L := by
  intro a w hE hT
  refine wpList_plain rfl fun K hK => ?_
  have hx' := hE.op _ _ hx
  obtain ⟨w1, hw, h⟩ := run_next (P := P) (ty := ty) (Tr.atM (b := m) hT) (Tr.atR (b := r) hT) hlt
  unfold Oper.wp
  rcases h with ⟨h3, h4⟩ | ⟨y, hxm, hxs, h4⟩
  · rw [exec_next hx' h4]
    exact hK _ _ (h1 h3 _ _ (hE.put (Nat.le_of_ble_eq_true hd) _) (hT.drewOr hw))
  · rw [exec_next hx' h4]
    exact hK _ _ (h2 y hxm hxs _ _ (hE.put (Nat.le_of_ble_eq_true hd) _) (Tr.setObj (b := r) (hT.drewOr hw)))
theorem find_born {l : List ME} (hd : (l.map ME.n).Nodup) : ∀ {x : ME}, x ∈ l → (ments l).find? (fun e => e.born == x.n) = some x.e := by
  intro x hx
  simp only [ments, List.find?_toArray]
  rw [List.find?_map]
  have : l.find? ((fun e : MapEntry => e.born == x.n) ∘ ME.e) = some x := by
    induction l with
    | nil => simp at hx
    | cons y l ih =>
      simp only [List.find?_cons, Function.comp, ME.e]
      rw [List.map_cons, List.nodup_cons] at hd
      by_cases h : y.n = x.n
      · have : y = x := by
          rcases List.mem_cons.1 hx with h1 | h1
          · exact h1.symm
          · exact absurd (List.mem_map.2 ⟨x, h1, h.symm⟩) hd.1
        subst this
        simp
      · rw [beq_eq_false_iff_ne.2 h]
        rcases List.mem_cons.1 hx with h1 | h1
        · exact absurd (by rw [h1]) h
        · exact ih hd.2 h1
  rw [this]
  rfl
theorem e_entry {x : Operand} {r m c : Nat} {l : List ME} {seen : List Nat} {y : ME} (hx : opv U x = some (.pointer (some ⟨r, 0, none⟩))) [hm : HasM L m l c] [hi : HasR L r (.mapIter (some m) c (seen ++ [y.n]).toArray c)] (hd : (l.map ME.n).Nodup) (hy : y ∈ l) :
    Ev P U w0 L0 L (.entry x) ty (Is (.tuple [.int .i64 y.k, y.v].toArray)) No :=
  .val fun ρ w dst pos after guard hρ hT => by
    have h1 := Tr.atM (b := m) hT
    have h2 := Tr.atR (b := r) hT
    have h3 : (seen ++ [y.n]).toArray.back? = some y.n := by simp
    simp only [execOp, hρ _ _ hx, Instr.entry, Sem.run_bind, run_getObj_it h2, Result.andThen_ok, h3, run_getObj_map h1, bne_self_eq_false, Bool.false_eq_true, if_false, pure_bind, find_born hd hy, ME.e]
    rfl
/-! ### Calls that turn what they are handed -/
theorem pickO_sub {L l : List Res} {ks : List Nat} (h : pickO L ks = some l) : ∀ r ∈ l, r ∈ L := by
  induction ks generalizing l with
  | nil => simp [pickO] at h; subst h; simp
  | cons k ks ih =>
    simp only [pickO] at h
    split at h
    · rename_i r hr
      split at h
      · rename_i l' hl'
        simp only [Option.some.injEq] at h
        subst h
        intro s hs
        rcases List.mem_cons.1 hs with rfl | h1
        · exact List.mem_of_getElem? hr
        · exact ih hl' s h1
      · simp at h
    · simp at h
/-- A call that is handed 'l' of what there is ('F' stays as it is), and leaves 'l' x v', whatever x it tells. -/
theorem GL.callM {α : Type} {d : Tmp} {f : FuncId} {xs : List Operand} {vs : List Value} {tys : Array TypeId} {l F : List Res} {Pv : α → Value → Prop} {l' : α → List Res}
    (hf : ∀ args w, (callFunc f args).run P w = .ok (.enter f args) w) (hx : opvs U xs = some vs) (hsub : Sub (l ++ F) L)
    (h : ∀ w, Tr w0 L0 w L → Calls P f vs.toArray w fun e w' => ∃ x v, e = .returned v ∧ Pv x v ∧ Tr w l w' (l' x)) (hd : Nat.ble (d + 1) N = true)
    (hr : ∀ x v, Pv x v → GL P ops Q rest N ((d, v) :: U) w0 L0 (l' x ++ F)) : GL P ops Q (⟨some d, .call ⟨.value (.func f), xs.toArray, tys⟩, ty, pos, after, Option.none⟩ :: rest) N U w0 L0 L := by
  intro a w hE hT
  refine wpList_plain rfl fun K hK => ?_
  unfold Oper.wp
  rw [run_call hf (opvs_spec hE.op hx) rfl]
  exact (h w hT).mono fun e w' ⟨x, v, he, hv, ht⟩ => by
    subst he
    exact hK _ _ (hr x v hv _ _ (hE.put (Nat.le_of_ble_eq_true hd) v) (hT.call hsub ht))
theorem GL.callM0 {α : Type} {f : FuncId} {xs : List Operand} {vs : List Value} {tys : Array TypeId} {l F : List Res} {Pv : α → Value → Prop} {l' : α → List Res}
    (hf : ∀ args w, (callFunc f args).run P w = .ok (.enter f args) w) (hx : opvs U xs = some vs) (hsub : Sub (l ++ F) L)
    (h : ∀ w, Tr w0 L0 w L → Calls P f vs.toArray w fun e w' => ∃ x v, e = .returned v ∧ Pv x v ∧ Tr w l w' (l' x))
    (hr : ∀ x v, Pv x v → GL P ops Q rest N U w0 L0 (l' x ++ F)) : GL P ops Q (⟨Option.none, .call ⟨.value (.func f), xs.toArray, tys⟩, ty, pos, after, Option.none⟩ :: rest) N U w0 L0 L := by
  intro a w hE hT
  refine wpList_plain rfl fun K hK => ?_
  unfold Oper.wp
  rw [run_call hf (opvs_spec hE.op hx) rfl]
  exact (h w hT).mono fun e w' ⟨x, v, he, hv, ht⟩ => by
    subst he
    exact hK _ _ (hr x v hv _ _ hE (hT.call hsub ht))
end
end Go.K

namespace Go.K
open Go
set_option linter.unusedVariables false
/-! ### Several blocks as one resource -/
def all (l : List Res) : Res where
  fp b := ∃ r ∈ l, r.fp b
  ok h := Disj l ∧ ∀ r ∈ l, r.ok h
  loc h h' e k := ⟨k.1, fun r hr => r.loc h h' (fun b hb => e b ⟨r, hr, hb⟩) (k.2 r hr)⟩
  ins h k b := fun ⟨r, hr, hb⟩ => r.ins h (k.2 r hr) b hb
  wild := l.any (·.wild)
theorem Tr.opened {w0 w : World} {L0 l F : List Res} (h : Tr w0 L0 w (all l :: F)) : Tr w0 L0 w (l ++ F) := by
  have h1 := h.ok (all l) List.mem_cons_self
  refine ⟨h.os, h.tape, h.output, fun hn => ⟨(h.ahead hn).1, fun r hr => by
    have h2 := (h.ahead hn).2
    rcases List.mem_append.1 hr with h3 | h3
    · have h4 := h2 (all l) List.mem_cons_self
      have h5 : l.any (·.wild) = false := h4
      have h6 := List.any_eq_false.1 h5 r h3
      simpa using h6
    · exact h2 r (List.mem_cons_of_mem _ h3)⟩, h.size, h.frame, h1.1.append h.disj.tail (fun r hr s hs b x y => h.disj.head hs b ⟨r, hr, x⟩ y), fun r hr => ?_, fun r hr b hb => ?_⟩
  · rcases List.mem_append.1 hr with h2 | h2
    · exact h1.2 r h2
    · exact h.ok r (List.mem_cons_of_mem _ h2)
  · rcases List.mem_append.1 hr with h2 | h2
    · exact h.new (all l) List.mem_cons_self b ⟨r, h2, hb⟩
    · exact h.new r (List.mem_cons_of_mem _ h2) b hb
theorem Disj.left {A B : List Res} (h : Disj (A ++ B)) : Disj A := fun i j r s hij hr hs => h i j r s hij (by rw [List.getElem?_append_left (List.getElem?_eq_some_iff.1 hr).1]; exact hr) (by rw [List.getElem?_append_left (List.getElem?_eq_some_iff.1 hs).1]; exact hs)
theorem Disj.right {A B : List Res} (h : Disj (A ++ B)) : Disj B := fun i j r s hij hr hs => h (A.length + i) (A.length + j) r s (by omega) (by rw [List.getElem?_append_right (by omega)]; simpa using hr) (by rw [List.getElem?_append_right (by omega)]; simpa using hs)
theorem Disj.cross {A B : List Res} (h : Disj (A ++ B)) {r s : Res} (hr : r ∈ A) (hs : s ∈ B) : Apart r s := by
  obtain ⟨i, hi⟩ := List.getElem?_of_mem hr
  obtain ⟨j, hj⟩ := List.getElem?_of_mem hs
  have hil : i < A.length := (List.getElem?_eq_some_iff.1 hi).1
  exact h i (A.length + j) r s (by omega) (by rw [List.getElem?_append_left hil]; exact hi) (by rw [List.getElem?_append_right (by omega)]; simpa using hj)
theorem Tr.closed {w0 w : World} {L0 l F : List Res} (h : Tr w0 L0 w (l ++ F)) : Tr w0 L0 w (all l :: F) := by
  refine ⟨h.os, h.tape, h.output, fun hn => ⟨(h.ahead hn).1, fun r hr => by
    have h2 := (h.ahead hn).2
    rcases List.mem_cons.1 hr with rfl | h3
    · exact List.any_eq_false.2 fun x hx => by simp [h2 x (List.mem_append_left _ hx)]
    · exact h2 r (List.mem_append_right _ h3)⟩, h.size, h.frame, h.disj.right.cons (fun s hs b ⟨r, hr, x⟩ y => h.disj.cross hr hs b x y), fun r hr => ?_, fun r hr b hb => ?_⟩
  · rcases List.mem_cons.1 hr with rfl | h2
    · exact ⟨h.disj.left, fun r hr => h.ok r (List.mem_append_left _ hr)⟩
    · exact h.ok r (List.mem_append_right _ h2)
  · rcases List.mem_cons.1 hr with rfl | h2
    · obtain ⟨s, hs, hb⟩ := hb
      exact h.new s (List.mem_append_left _ hs) b hb
    · exact h.new r (List.mem_append_right _ h2) b hb
theorem Tr.one {w0 w : World} {L0 l : List Res} (h : Tr w0 L0 w l) : Tr w0 L0 w [all l] := Tr.closed (F := []) (by rw [List.append_nil]; exact h)
/-- What reads so where the call began reads so, if it is none of what the call was handed. -/
theorem Sl.stay {w0 w : World} {L0 L : List Res} {k n : Nat} {a : Option Addr} {xs : List Value} (h : Sl w0 k a n xs) (hT : Tr w0 L0 w L) (hn : ∀ r ∈ L0, ¬ r.fp (bk a)) : Sl w k a n xs :=
  ⟨h.len, h.base, fun j v hj => by
    have h1 := h.cell j v hj
    have hb : bk a < w0.heap.size := by
      simp only [World.cell?] at h1
      by_cases hlt : bk a < w0.heap.size
      · exact hlt
      · rw [Array.getElem?_eq_none (by omega)] at h1; simp at h1
    have h2 := hT.frame (bk a) hb hn
    simp only [World.cell?] at h1 ⊢
    rw [h2]; exact h1⟩
section
variable {P : Program} {ops : Array Oper} {Q : Exit → Act → World → Prop} {N : Nat} {U : Env} {w0 : World} {L0 L : List Res} {ty : TypeId} {rest : List Oper} {pos : String} {after : Array Edge}
theorem GC.opened {c : Code} {l F : List Res} (h : GC P c Q N U w0 L0 (l ++ F)) : GC P c Q N U w0 L0 (all l :: F) := fun a w hE hT => h a w hE hT.opened
theorem GC.opened1 {c : Code} {l : List Res} (h : GC P c Q N U w0 L0 l) : GC P c Q N U w0 L0 [all l] := GC.opened (by rw [List.append_nil]; exact h)
theorem GL.opened {ol : List Oper} {l F : List Res} (h : GL P ops Q ol N U w0 L0 (l ++ F)) : GL P ops Q ol N U w0 L0 (all l :: F) := fun a w hE hT => h a w hE hT.opened
theorem GL.closed {ol : List Oper} {l F : List Res} (h : GL P ops Q ol N U w0 L0 (all l :: F)) : GL P ops Q ol N U w0 L0 (l ++ F) := fun a w hE hT => h a w hE hT.closed
theorem GC.res {c : Code} {L' : List Res} (h : GC P c Q N U w0 L0 L') (hs : Sub L' L) : GC P c Q N U w0 L0 L := fun a w hE hT => h a w hE (hT.sub hs)
theorem e_sliceArr {T E : TypeId} {x : Operand} {n k b off : Nat} (hf : arrOf P T = some (n, E, k)) (hx : opv U x = some (.pointer (some ⟨b, off, none⟩))) : Ev P U w0 L0 L (.slice T x none none none) ty (Is (.slice (some ⟨b, off, none⟩) n n)) No :=
  .val fun ρ w dst pos after guard hρ hT => by
    obtain ⟨h1, h2⟩ := arrOf_spec hf
    simp [execOp, hρ _ _ hx, Instr.sliceAt, Instr.sureAddr, run_underlying h1, Instr.sliceBounds, h2, go_sem]
theorem e_arrayAt {T E : TypeId} {x : Operand} {n k m c : Nat} {a : Option Addr} (hf : arrOf P T = some (n, E, k)) (hx : opv U x = some (.slice a m c)) (h : n ≤ m) : Ev P U w0 L0 L (.sliceToArrayPointer T x) ty (Is (.pointer a)) No :=
  .val fun ρ w dst pos after guard hρ hT => by
    obtain ⟨h1, h2⟩ := arrOf_spec hf
    simp [execOp, hρ _ _ hx, Instr.arrayAt, run_underlying h1, if_neg (show ¬ m < n by omega), go_sem]
end
/-! ### Whole arrays in rows -/
theorem take_flat {α : Type} (f : α → List Value) (k : Nat) (hf : ∀ x, (f x).length = k) : ∀ (l : List α) (i : Nat) (x : α), l[i]? = some x → ((l.flatMap f).drop (i * k)).take k = f x
  | [], i, x, h => by simp at h
  | y :: l, 0, x, h => by
    simp only [List.getElem?_cons_zero, Option.some.injEq] at h
    subst h
    simp only [Nat.zero_mul, List.drop_zero, List.flatMap_cons]
    rw [List.take_append_of_le_length (by rw [hf]; omega), List.take_of_length_le (by rw [hf]; omega)]
  | y :: l, i + 1, x, h => by
    simp only [List.flatMap_cons]
    rw [List.drop_append, List.drop_of_length_le (by rw [hf, Nat.add_mul]; omega), List.nil_append, hf, Nat.add_mul, Nat.one_mul, Nat.add_sub_cancel]
    exact take_flat f k hf l i x (by simpa using h)
theorem set_flat {α : Type} (f : α → List Value) (k : Nat) (hf : ∀ x, (f x).length = k) (y : α) : ∀ (l : List α) (i : Nat), i < l.length → (l.flatMap f).take (i * k) ++ f y ++ (l.flatMap f).drop (i * k + k) = (l.set i y).flatMap f
  | [], i, h => by simp at h
  | x :: l, 0, h => by
    simp only [Nat.zero_mul, List.take_zero, List.nil_append, Nat.zero_add, List.flatMap_cons, List.set_cons_zero]
    rw [List.drop_append, List.drop_of_length_le (by rw [hf]; omega), hf, Nat.sub_self, List.drop_zero, List.nil_append]
  | x :: l, i + 1, h => by
    simp only [List.flatMap_cons, List.set_cons_succ]
    have e1 : (i + 1) * k = k + i * k := by rw [Nat.add_mul, Nat.one_mul, Nat.add_comm]
    rw [← set_flat f k hf y l i (by simpa using h), e1, List.take_append, List.drop_append, List.take_of_length_le (by rw [hf]; omega), List.drop_of_length_le (by rw [hf]; omega), hf]
    simp only [List.nil_append, List.append_assoc, Nat.add_sub_cancel_left]
    rw [show k + i * k + k - k = i * k + k by omega]
end Go.K

namespace Go.K
open Go
set_option linter.unusedVariables false
theorem takeO_of : ∀ {c : List Value} {o n : Nat}, o + n ≤ c.length → takeO c o n = some ((c.drop o).take n)
  | c, 0, 0, _ => by cases c <;> simp [takeO]
  | [], 0, n + 1, h => by simp at h
  | x :: c, 0, n + 1, h => by
    simp only [takeO]
    rw [takeO_of (c := c) (o := 0) (n := n) (by simpa using h)]
    simp
  | [], o + 1, n, h => by simp at h
  | x :: c, o + 1, n, h => by
    have : takeO (x :: c) (o + 1) n = takeO c o n := by cases n <;> simp only [takeO]
    rw [this, takeO_of (by simp at h; omega)]
    simp
theorem spliceO_of : ∀ {c : List Value} {n : Nat} {vs : List Value}, n + vs.length ≤ c.length → spliceO c n vs = some (c.take n ++ vs ++ c.drop (n + vs.length))
  | c, 0, [], h => by cases c <;> simp [spliceO]
  | [], 0, v :: vs, h => by simp at h
  | x :: c, 0, v :: vs, h => by
    simp only [spliceO]
    rw [spliceO_of (by simp at h ⊢; omega)]
    simp
  | [], n + 1, vs, h => by simp at h
  | x :: c, n + 1, vs, h => by
    have : spliceO (x :: c) (n + 1) vs = (match spliceO c n vs with | some r => some (x :: r) | none => none) := by cases vs <;> rfl
    rw [this, spliceO_of (by simp at h; omega)]
    simp [Nat.add_right_comm n 1]
theorem takeO_flat {α : Type} (f : α → List Value) (k : Nat) (hf : ∀ x, (f x).length = k) {l : List α} {i : Nat} {x : α} (h : l[i]? = some x) : takeO (l.flatMap f) (i * k) k = some (f x) := by
  have hi := (List.getElem?_eq_some_iff.1 h).1
  have : (i + 1) * k ≤ l.length * k := Nat.mul_le_mul_right k hi
  rw [takeO_of (by rw [flat_length f k hf]; rw [Nat.add_mul] at this; omega), take_flat f k hf l i x h]
theorem spliceO_flat {α : Type} (f : α → List Value) (k : Nat) (hf : ∀ x, (f x).length = k) {l : List α} {i : Nat} (y : α) (hi : i < l.length) : spliceO (l.flatMap f) (i * k) (f y) = some ((l.set i y).flatMap f) := by
  have : (i + 1) * k ≤ l.length * k := Nat.mul_le_mul_right k hi
  rw [spliceO_of (by rw [flat_length f k hf, hf]; rw [Nat.add_mul] at this; omega), hf, set_flat f k hf y l i hi]
/-! ### Rows of one's own, of which more may be there than is told -/
def row (a : Option Addr) (c k : Nat) (E : TypeId) (xs : List Value) : Res where
  fp b := ∃ p, a = some p ∧ b = p.block
  ok h := (a = none → xs = [] ∧ c = 0) ∧ ∀ p, a = some p → p = ⟨p.block, 0, none⟩ ∧ ∃ junk, h[p.block]? = some (.cells (xs ++ junk).toArray E (0, 0)) ∧ (xs ++ junk).length = c * k
  loc h h' e w := ⟨w.1, fun p hp => ⟨(w.2 p hp).1, by
    obtain ⟨j, h1, h2⟩ := (w.2 p hp).2
    exact ⟨j, by rw [e _ ⟨p, hp, rfl⟩]; exact h1, h2⟩⟩⟩
  ins h w b := fun ⟨p, hp, hb⟩ => by
    obtain ⟨j, h1, h2⟩ := (w.2 p hp).2
    subst hb
    exact (Array.getElem?_eq_some_iff.1 h1).1
theorem Tr.sl_row {w0 w : World} {L0 L : List Res} {a : Option Addr} {c k n : Nat} {E : TypeId} {xs : List Value} (h : Tr w0 L0 w L) (hm : row a c k E xs ∈ L) (hk : 0 < k) (hl : xs.length = n * k) : Sl w k a n xs := by
  have h1 := h.ok _ hm
  cases a with
  | none =>
    obtain ⟨rfl, rfl⟩ := h1.1 rfl
    simp only [List.length_nil] at hl
    refine ⟨hl, fun hn => ?_, fun j v hj => by simp at hj⟩
    have := Nat.mul_pos hn hk
    omega
  | some p =>
    obtain ⟨e, j, h2, h3⟩ := h1.2 p rfl
    rw [e]
    exact Sl.pre (cs := j) (T := E) h2 hl
theorem Tr.weak {w w' : World} {L1 L : List Res} (h : Tr w [] w' L) : Tr w L1 w' L :=
  ⟨h.os, h.tape, h.output, fun _ => h.ahead (fun _ h => by simp at h), h.size, fun b hb _ => h.frame b hb (fun r hr => by simp at hr), h.disj, h.ok, fun r hr b hb => by
    rcases h.new r hr b hb with h2 | ⟨s, hs, _⟩
    · exact .inl h2
    · simp at hs⟩
class HasW (L : List Res) (a : Option Addr) (c : outParam Nat) (k : outParam Nat) (E : outParam TypeId) (xs : outParam (List Value)) : Prop where
  mem : row a c k E xs ∈ L
instance HasW.tail {L : List Res} {r : Res} {a : Option Addr} {c k : Nat} {E : TypeId} {xs : List Value} [h : HasW L a c k E xs] : HasW (r :: L) a c k E xs := ⟨List.mem_cons_of_mem _ h.mem⟩
instance HasW.head {L : List Res} {a : Option Addr} {c k : Nat} {E : TypeId} {xs : List Value} : HasW (row a c k E xs :: L) a c k E xs := ⟨List.mem_cons_self⟩
class SetW (L : List Res) (a : Option Addr) (c : outParam Nat) (k : outParam Nat) (E : outParam TypeId) (xs : outParam (List Value)) (r' : Res) (L' : outParam (List Res)) : Prop where
  out : ∃ i, L[i]? = some (row a c k E xs) ∧ L' = L.set i r'
instance SetW.tail {L L' : List Res} {r r' : Res} {a : Option Addr} {c k : Nat} {E : TypeId} {xs : List Value} [h : SetW L a c k E xs r' L'] : SetW (r :: L) a c k E xs r' (r :: L') := ⟨by
  obtain ⟨i, h1, h2⟩ := h.out
  exact ⟨i + 1, by simpa using h1, by simp [h2]⟩⟩
instance SetW.head {L : List Res} {r' : Res} {a : Option Addr} {c k : Nat} {E : TypeId} {xs : List Value} : SetW (row a c k E xs :: L) a c k E xs r' (r' :: L) := ⟨0, by simp⟩
theorem Tr.row_fresh (w w1 : World) {E : TypeId} {xs junk : List Value} {c k : Nat} (h1 : w1.heap = w.heap) (h2 : w1.os = w.os) (h3 : w1.tape = w.tape) (h4 : w1.output = w.output) (h5 : w.drawn ≤ w1.drawn) (hl : (xs ++ junk).length = c * k) {o : Obj} (ho : o = .cells (xs ++ junk).toArray E (0, 0)) :
    Tr w [] (w1.alloc o) [row (some ⟨w.heap.size, 0, none⟩) c k E xs] := by
  subst ho
  have hs : (w1.alloc (.cells (xs ++ junk).toArray E (0, 0))).heap = w.heap.push (.cells (xs ++ junk).toArray E (0, 0)) := by rw [← h1]; rfl
  refine ⟨h2, h3, h4, fun _ => ⟨h5, fun r hr => by simp only [List.mem_singleton] at hr; subst hr; rfl⟩, by rw [hs]; simp, fun b hb _ => by rw [hs, Array.getElem?_push, if_neg (by omega)], Disj.one _, ?_, ?_⟩
  · intro r hr
    simp only [List.mem_singleton] at hr
    subst hr
    refine ⟨fun h => by simp at h, fun p hp => ?_⟩
    simp only [Option.some.injEq] at hp
    subst hp
    exact ⟨rfl, junk, by rw [hs]; simp, hl⟩
  · intro r hr b hb
    simp only [List.mem_singleton] at hr
    subst hr
    obtain ⟨p, hp, hb⟩ := hb
    simp only [Option.some.injEq] at hp
    subst hp hb
    exact .inl (Nat.le_refl _)
theorem Tr.row_set {w : World} {p : Addr} {E : TypeId} {xs xs' junk junk' : List Value} {c k : Nat} (hp : p = ⟨p.block, 0, none⟩) (hb : w.heap[p.block]? = some (.cells (xs ++ junk).toArray E (0, 0))) (hl : (xs' ++ junk').length = c * k) :
    Tr w [row (some p) c k E xs] (w.setRow p.block (xs' ++ junk').toArray) [row (some p) c k E xs'] := by
  refine ⟨rfl, rfl, rfl, fun _ => ⟨Nat.le_refl _, fun r hr => by simp only [List.mem_singleton] at hr; subst hr; rfl⟩, by simp [World.setRow], fun b hb' hn => setRow_other w p.block b _ (fun e => hn _ List.mem_cons_self ⟨p, rfl, e⟩), Disj.one _, ?_, ?_⟩
  · intro r hr
    simp only [List.mem_singleton] at hr
    subst hr
    refine ⟨fun h => by simp at h, fun q hq => ?_⟩
    simp only [Option.some.injEq] at hq
    subst hq
    exact ⟨hp, junk', setRow_heap w p.block _ _ E _ hb, hl⟩
  · intro r hr b hb'
    simp only [List.mem_singleton] at hr
    subst hr
    exact .inr ⟨_, List.mem_cons_self, hb'⟩
section
variable {P : Program} {ops : Array Oper} {Q : Exit → Act → World → Prop} {N : Nat} {U : Env} {w0 : World} {L0 L : List Res} {ty : TypeId} {rest : List Oper} {pos : String} {after : Array Edge}
theorem GL.row0 {ol : List Oper} (k : Nat) (E : TypeId) (h : GL P ops Q ol N U w0 L0 (row none 0 k E [] :: L)) : GL P ops Q ol N U w0 L0 L := fun a w hE hT => h a w hE
  ⟨hT.os, hT.tape, hT.output, fun hn => ⟨(hT.ahead hn).1, fun r hr => by
    rcases List.mem_cons.1 hr with rfl | h2
    · rfl
    · exact (hT.ahead hn).2 r h2⟩, hT.size, hT.frame, hT.disj.cons (fun s _ b ⟨p, hp, _⟩ _ => by simp at hp), fun r hr => by
    rcases List.mem_cons.1 hr with rfl | h2
    · exact ⟨fun _ => ⟨rfl, rfl⟩, fun p hp => by simp at hp⟩
    · exact hT.ok r h2, fun r hr b hb => by
    rcases List.mem_cons.1 hr with rfl | h2
    · obtain ⟨p, hp, _⟩ := hb; simp at hp
    · exact hT.new r h2 b hb⟩
theorem run_append {w : World} {T E : TypeId} {z : List Value} {bytes : Nat} (hm : mkOf P T = some (E, z, bytes)) {a : Option Addr} {n c : Nat} {xs : List Value} (hrow : (row a c z.length E xs).ok w.heap) (hxl : xs.length = n * z.length)
    {a2 : Addr} {m c2 : Nat} {ys : List Value} (hS : Sl w z.length (some a2) m ys) (hm0 : 0 < m) (h1 : ∀ u ∈ ys, u.oneCell' = true) (hb : (n + m) * bytes ≤ 140737488355328) (h63 : n + m ≤ 9223372036854775807) :
    ∃ a' c' w', (Builtin.append_ #[T, T] ty #[.slice a n c, .slice (some a2) m c2]).run P w = .ok (.slice a' (n + m) c') w' ∧ Tr w [row a c z.length E xs] w' [row a' c' z.length E (xs ++ ys)] := by
  obtain ⟨it, zv, hu, hi, hz, hzc, hsz, hpos, hby⟩ := mkOf_spec hm
  subst hby
  have ha2 := hS.base hm0
  simp only [Option.some.injEq] at ha2
  have hyl : ys.length = m * it.size := by rw [hsz]; exact hS.len
  have hnews : ∀ j u, ys[j]? = some u → w.cell? (a2.add j) = some u := fun j u hj => by rw [ha2, add_addr]; exact hS.cell j u hj
  have hge : ∀ need old, need ≤ grownCap w need old E := fun need old => grownCap_ge w need old E
  cases a with
  | none =>
    obtain ⟨rfl, rfl⟩ := hrow.1 rfl
    obtain rfl : n = 0 := by
      simp only [List.length_nil] at hxl
      rcases Nat.eq_zero_or_pos n with h | h
      · exact h
      · have := Nat.mul_pos h hpos; omega
    have hr := run_append_nil (P := P) w T ty E it zv hu hi hz a2 m c2 ys hyl hnews hm0 (by omega) (by simp only [Nat.zero_add] at hb; omega)
    refine ⟨_, _, _, by rw [hr, Nat.zero_add], Tr.weak ?_⟩
    refine Tr.row_fresh w w.drew (junk := (Builtin.zeroCells zv.cells (grownCap w m 0 E - m)).toList) rfl rfl rfl rfl (Nat.le_succ _) ?_ (by simp)
    have := hge m 0
    simp only [List.nil_append, List.length_append, Array.length_toList, size_zeroCells, hzc, hS.len, List.size_toArray, ← Nat.add_mul]
    congr 1
    omega
  | some p =>
    obtain ⟨hp, junk, hblk, hjl⟩ := hrow.2 p rfl
    by_cases hroom : n + m ≤ c
    · have hfit : n * it.size + ys.length ≤ (xs ++ junk).toArray.size := by
        have := Nat.mul_le_mul_right z.length hroom
        simp only [List.size_toArray, hjl, hyl, hsz, ← Nat.add_mul]; exact this
      have hr := run_append_room (P := P) w T ty E it hu hi p.block n c (xs ++ junk).toArray hblk a2 m c2 ys hyl hnews h1 hroom hfit
      rw [← hp] at hr
      refine ⟨_, _, _, hr, ?_⟩
      have e : (xs ++ junk).toArray.toList.take (n * it.size) ++ ys ++ (xs ++ junk).toArray.toList.drop (n * it.size + ys.length) = (xs ++ ys) ++ junk.drop ys.length := by
        simp only [hsz, ← hxl]
        rw [List.take_left, List.drop_append, List.drop_of_length_le (by omega)]
        simp
      rw [e]
      refine Tr.row_set hp hblk ?_
      simp only [List.size_toArray, List.length_append] at hfit hjl ⊢
      rw [hsz, ← hxl] at hfit
      simp only [List.length_drop]
      omega
    · have hr := run_append_grow (P := P) w T ty E it zv hu hi hz p n c xs (by rw [hsz]; exact hxl) (fun j v hj => by
        rw [hp, add_addr, Nat.zero_add, cell_of_block hblk, List.getElem?_append_left (List.getElem?_eq_some_iff.1 hj).1]; exact hj) a2 m c2 ys hyl hnews (by omega) (by omega) (growslice_fits (by omega) hb)
      refine ⟨_, _, _, hr, Tr.weak ?_⟩
      refine Tr.row_fresh w w.drew (junk := (Builtin.zeroCells zv.cells (grownCap w (n + m) c E - (n + m))).toList) rfl rfl rfl rfl (Nat.le_succ _) ?_ (by simp)
      have := hge (n + m) c
      simp only [List.length_append, Array.length_toList, size_zeroCells, hzc, hS.len, hxl, List.size_toArray, ← Nat.add_mul]
      congr 1
      omega
theorem exec_append {ρ : Operand → Value} {w : World} {dst : Option Tmp} {guard : Option (Nat × Bool)} {x y : Operand} {T1 T2 : TypeId} : (execOp ρ ⟨dst, .call ⟨.builtin .append, #[x, y], #[T1, T2]⟩, ty, pos, after, guard⟩).run P w = ((Builtin.append_ #[T1, T2] ty #[ρ x, ρ y]).run P w).andThen fun v w' => .ok (.value v) w' := by
  have hb : ∀ cs args, builtin .append #[T1, T2] ty cs args = (do pure (.value (← Builtin.append_ #[T1, T2] ty args))) := fun _ _ => rfl
  simp only [execOp, resolve, pure_bind, invoke, hb, Sem.run_bind, List.map_toArray, List.map_cons, List.map_nil]
  cases (Builtin.append_ #[T1, T2] ty #[ρ x, ρ y]).run P w <;> rfl
theorem GL.append {d : Tmp} {T E : TypeId} {x y : Operand} {z : List Value} {bytes : Nat} (hm : mkOf P T = some (E, z, bytes)) {a : Option Addr} {n c k : Nat} {xs : List Value} (hx : opv U x = some (.slice a n c)) [hw : HasW L a c k E xs] (hk : k = z.length) (hxl : xs.length = n * k)
    {a2 : Addr} {m c2 : Nat} {ys : List Value} (hy : opv U y = some (.slice (some a2) m c2)) (hS : ∀ w, Tr w0 L0 w L → Sl w k (some a2) m ys) (hm0 : 0 < m) (h1 : ∀ u ∈ ys, u.oneCell' = true) (hb : (n + m) * bytes ≤ 140737488355328) (h63 : n + m ≤ 9223372036854775807)
    (L' : Option Addr → Nat → List Res) [hs : ∀ a' c', SetW L a c k E xs (row a' c' k E (xs ++ ys)) (L' a' c')] (hd : Nat.ble (d + 1) N = true)
    (hr : ∀ a' c', GL P ops Q rest N ((d, .slice a' (n + m) c') :: U) w0 L0 (L' a' c')) : GL P ops Q (⟨some d, .call ⟨.builtin .append, #[x, y], #[T, T]⟩, ty, pos, after, Option.none⟩ :: rest) N U w0 L0 L := by
  subst hk
  intro a0 w hE hT
  refine wpList_plain rfl fun K hK => ?_
  have hx' := hE.op _ _ hx
  have hy' := hE.op _ _ hy
  obtain ⟨a', c', w', hrun, hTr⟩ := run_append (P := P) (ty := ty) (c2 := c2) hm (hT.ok _ hw.mem) hxl (hS w hT) hm0 h1 hb h63
  unfold Oper.wp
  rw [exec_append, hx', hy', hrun, Result.andThen_ok]
  refine hK _ _ (hr a' c' _ _ (hE.put (Nat.le_of_ble_eq_true hd) _) ?_)
  obtain ⟨i, h2, h3⟩ := (hs a' c').out
  rw [h3]
  exact hT.put h2 hTr
end
end Go.K

namespace Go.K
open Go
set_option linter.unusedVariables false
section
variable {P : Program} {ops : Array Oper} {Q : Exit → Act → World → Prop} {N : Nat} {U : Env} {w0 : World} {L0 L : List Res} {ty : TypeId} {rest : List Oper} {pos : String} {after : Array Edge}
theorem e_buildSlice {T E : TypeId} {z : List Value} {bytes len : Nat} {parts : List (Nat × Operand)} {cs : List Value} (hm : mkOf P T = some (E, z, bytes)) (hl : Nat.ble (len * z.length) 16777216 = true)
    (hb : buildO U ((List.range len).map fun i => (i * z.length, z.length)) (zeros z len) parts = some cs) : Ev P U w0 L0 L (.buildSlice T len parts.toArray) ty (fun u => ∃ b, u = .slice (some ⟨b, 0, none⟩) len len) (atPtr fun b => cl b E cs) := by
  intro ρ w dst pos after guard hρ hT
  obtain ⟨it, zv, hu, hi, hz, hzc, hsz, hpos, hby⟩ := mkOf_spec hm
  have hl' := Nat.le_of_ble_eq_true hl
  have hsize : (sizeOf E).run P w = .ok z.length w := by simp [sizeOf, typeInfo, hi, hsz]
  have hzero : (zeroValue E).run P w = .ok zv w := by simp [zeroValue, typeInfo, hi, hz]
  have hf := fill_buildO hρ (fun i => some (i * z.length, z.length)) (pl := (List.range len).map fun i => (i * z.length, z.length)) (fun i p hp => by
    simp only [List.getElem?_map, Option.map_eq_some_iff] at hp
    obtain ⟨j, hj, rfl⟩ := hp
    have := (List.getElem?_eq_some_iff.1 hj)
    obtain ⟨h1, h2⟩ := this
    simp at h2
    rw [h2]) hb
  have hmz := made_zeros z hpos len
  have : (Instr.buildSlice T len (parts.toArray.map fun (i, x) => (i, ρ x))).run P w = .ok (.slice (some ⟨w.heap.size, 0, none⟩) len len) { w with heap := w.heap.push (.cells cs.toArray E) } := by
    simp only [Instr.buildSlice, Sem.run_bind, run_underlying hu, Result.andThen_ok, hsize]
    rw [if_neg (by omega)]
    by_cases h0 : len * z.length = 0
    · have hlen : len = 0 := by rcases Nat.eq_zero_or_pos len with h | h; exact h; exact absurd h0 (Nat.ne_of_gt (Nat.mul_pos h hpos))
      subst hlen
      simp only [pure_bind, h0, if_true, Sem.run_pure, Result.andThen_ok, List.map_toArray]
      have e : (Array.map (fun x => (#[] : Array Value)[x % (#[] : Array Value).size]!) (Array.range 0)) = (zeros z 0).toArray := by simp [zeros]
      rw [e, hf]
      rfl
    · simp only [pure_bind, h0, if_false, Sem.run_bind, hzero, Sem.run_pure, Result.andThen_ok, List.map_toArray, hzc]
      rw [hmz, hf]
      rfl
  have h2 : (execOp ρ ⟨dst, .buildSlice T len parts.toArray, ty, pos, after, guard⟩).run P w = .ok (.value (.slice (some ⟨w.heap.size, 0, none⟩) len len)) { w with heap := w.heap.push (.cells cs.toArray E) } := by
    simp only [execOp, Sem.run_bind, this, Result.andThen_ok]
    rfl
  rw [h2]
  exact ⟨⟨_, rfl⟩, Tr.fresh w _⟩
theorem GL.buildSlice {d : Tmp} {T E : TypeId} {z : List Value} {bytes len : Nat} {parts : List (Nat × Operand)} {cs : List Value} (hm : mkOf P T = some (E, z, bytes)) (hl : Nat.ble (len * z.length) 16777216 = true)
    (hb : buildO U ((List.range len).map fun i => (i * z.length, z.length)) (zeros z len) parts = some cs) (hd : Nat.ble (d + 1) N = true)
    (hr : ∀ b, GL P ops Q rest N ((d, .slice (some ⟨b, 0, none⟩) len len) :: U) w0 L0 (cl b E cs :: L)) : GL P ops Q (⟨some d, .buildSlice T len parts.toArray, ty, pos, after, Option.none⟩ :: rest) N U w0 L0 L :=
  GL.ev (e_buildSlice hm hl hb) hd fun v hv => by obtain ⟨b, rfl⟩ := hv; exact hr b
end
end Go.K

namespace Go.K
open Go
set_option linter.unusedVariables false
def Precise (r : Res) : Prop := ∀ h h', r.ok h → r.ok h' → ∀ b, r.fp b → h'[b]? = h[b]?
theorem Precise.pt (b : Nat) (o : Obj) : Precise (pt b o) := fun h h' k k' b' e => by
  have h1 : h[b]? = some o := k
  have h2 : h'[b]? = some o := k'
  have : b' = b := e
  rw [this, h1, h2]
theorem Precise.all {l : List Res} (h : ∀ r ∈ l, Precise r) : Precise (all l) := fun g g' k k' b ⟨r, hr, hb⟩ => h r hr g g' (k.2 r hr) (k'.2 r hr) b hb
theorem Precise.map {α : Type} (f : α → Res) (l : List α) (h : ∀ x, Precise (f x)) : ∀ r ∈ l.map f, Precise r := fun r hr => by
  obtain ⟨x, _, rfl⟩ := List.mem_map.1 hr
  exact h x
theorem Tr.calmed {w w' : World} {r : Res} {l : List Res} (h : Tr w [r] w' (r :: l)) (ho : r.ok w.heap) (hp : Precise r) (hw : r.wild = false := by rfl) : Tr w [] w' l := by
  refine ⟨h.os, h.tape, h.output, fun _ => ⟨(h.ahead (fun s hs => by simp only [List.mem_singleton] at hs; subst hs; exact hw)).1, fun s hs => (h.ahead (fun s hs => by simp only [List.mem_singleton] at hs; subst hs; exact hw)).2 s (List.mem_cons_of_mem _ hs)⟩, h.size, fun b hb _ => ?_, h.disj.tail, fun s hs => h.ok s (List.mem_cons_of_mem _ hs), fun s hs b hb => ?_⟩
  · by_cases hf : r.fp b
    · exact hp _ _ ho (h.ok r List.mem_cons_self) b hf
    · exact h.frame b hb (fun s hs => by simp only [List.mem_singleton] at hs; subst hs; exact hf)
  · rcases h.new s (List.mem_cons_of_mem _ hs) b hb with h2 | ⟨t, ht, hb2⟩
    · exact .inl h2
    · simp only [List.mem_singleton] at ht
      subst ht
      exact absurd hb (fun hb => h.disj.head hs b hb2 hb)
theorem spliceO_all {c vs : List Value} (h : vs.length = c.length) : spliceO c 0 vs = some vs := by
  rw [spliceO_of (by omega)]
  simp [h]
theorem takeO_all {c : List Value} {n : Nat} (h : c.length = n) : takeO c 0 n = some c := by
  rw [takeO_of (by omega)]
  simp [← h]
theorem oneCells_bv (l : Bytes) : oneCells (bv l) = true := by
  induction l with
  | nil => rfl
  | cons b l ih => simp only [bv, List.map_cons, oneCells, Bool.and_eq_true]; exact ⟨rfl, ih⟩
/-- A place's worth of 64 bytes. -/
abbrev Sec := { l : Bytes // l.length = 64 }
def sv (x : Sec) : List Value := bv x.1
theorem sv_length (x : Sec) : (sv x).length = 64 := by rw [sv, bv_length, x.2]
def secOf (c : UInt8) : Sec := ⟨List.replicate 64 c, by simp⟩
theorem zeros_flat {α : Type} (f : α → List Value) (x : α) (n : Nat) : zeros (f x) n = (List.replicate n x).flatMap f := by
  induction n with
  | zero => rfl
  | succ n ih => simp only [zeros, List.replicate_succ, List.flatMap_cons, ih]
section
variable {P : Program} {ops : Array Oper} {Q : Exit → Act → World → Prop} {N : Nat} {U : Env} {w0 : World} {L0 L : List Res} {ty : TypeId} {rest : List Oper} {pos : String} {after : Array Edge}
/-- A store of which all is told. -/
theorem GL.storeP {T E : TypeId} {x y : Operand} {b off : Nat} {v : Value} {cs vs cs' : List Value} {L' : List Res} {n : Nat} (hx : opv U x = some (.pointer (some ⟨b, off, none⟩))) (hy : opv U y = some v) (hc : cellsO v = some vs)
    (hS : ∀ w, (sizeOf T).run P w = .ok n w) (hn : vs.length = n) (h1 : oneCells vs = true) [hh : HasC L b E cs] (hs : spliceO cs off vs = some cs') [hset : SetC L b E cs cs' L']
    (hr : GL P ops Q rest N U w0 L0 L') : GL P ops Q (⟨Option.none, .store T x y, ty, pos, after, Option.none⟩ :: rest) N U w0 L0 L :=
  GL.store hx hy hc (fun w => by rw [hn]; exact hS w) h1 hs hr
theorem e_loadsP {T : TypeId} {x : Operand} {b off n : Nat} {E : TypeId} {cs vs : List Value} (hA : ∀ w, (isAgg T).run P w = .ok true w) (hS : ∀ w, (sizeOf T).run P w = .ok n w) (hx : opv U x = some (.pointer (some ⟨b, off, none⟩))) [h : HasC L b E cs]
    (hv : takeO cs off n = some vs) : Ev P U w0 L0 L (.load T x) ty (Is (.agg vs.toArray)) No := e_loads hA hS hx hv
end
end Go.K

namespace Go.K
open Go
set_option linter.unusedVariables false
section
variable {P : Program} {U : Env} {w0 : World} {L0 L : List Res} {ty : TypeId}
def isNilP : Value → Bool
  | .pointer none => true
  | _ => false
theorem run_eq_nil (w : World) {T E : TypeId} (a : Option Addr) (d : Nat) (hu : P.underlying T = some (.pointer E)) : (Op.equalIn (d + 1) T (.pointer a) (.pointer none)).run P w = .ok a.isNone w := by
  cases a <;> simp [Op.equalIn, run_underlying hu, go_sem]
theorem e_eqlp {T Y E : TypeId} {x y : Operand} {a : Option Addr} (hu : P.underlying T = some (.pointer E)) (hx : opv U x = some (.pointer a)) (hy : opv U y = some (.pointer none)) : Ev P U w0 L0 L (.binOp .eql T x y Y) ty (Is (.bool (a.isNone))) No :=
  .val fun ρ w dst pos after guard hρ hT => by
    have h1 : (binOp .eql T (.pointer a) (.pointer none)).run P w = .ok (.bool a.isNone) w := by
      simp only [binOp]
      simp [Op.equal, Op.maxDepth, run_eq_nil w a 9999 hu]
    simp [execOp, hρ _ _ hx, hρ _ _ hy, go_sem, eqGuard, h1]
theorem e_neqp {T Y E : TypeId} {x y : Operand} {a : Option Addr} (hu : P.underlying T = some (.pointer E)) (hx : opv U x = some (.pointer a)) (hy : opv U y = some (.pointer none)) : Ev P U w0 L0 L (.binOp .neq T x y Y) ty (Is (.bool (!a.isNone))) No :=
  .val fun ρ w dst pos after guard hρ hT => by
    have h1 : (binOp .neq T (.pointer a) (.pointer none)).run P w = .ok (.bool (!a.isNone)) w := by
      simp only [binOp]
      simp [Op.equal, Op.maxDepth, run_eq_nil w a 9999 hu]
    simp [execOp, hρ _ _ hx, hρ _ _ hy, go_sem, eqGuard, h1]
end
theorem Sub.cons {A B : List Res} (r : Res) (h : Sub A B) : Sub (r :: A) (r :: B) := by
  obtain ⟨σ, h1, h2⟩ := h
  refine ⟨fun i => match i with | 0 => 0 | i + 1 => σ i + 1, fun i j => ?_, fun i s => ?_⟩
  · match i, j with
    | 0, 0 => exact fun _ => rfl
    | 0, j + 1 => exact fun e => absurd e (by simp)
    | i + 1, 0 => exact fun e => absurd e (by simp)
    | i + 1, j + 1 => intro e; have := h1 i j (by simpa using e); omega
  · match i with
    | 0 => exact fun e => by simpa using e
    | i + 1 => exact fun e => by simpa using h2 i s (by simpa using e)
theorem Sub.last (r x : Res) (A : List Res) : Sub (r :: A) (x :: (A ++ [r])) := by
  refine ⟨fun i => match i with | 0 => A.length + 1 | i + 1 => if i < A.length then i + 1 else i + 2, fun i j => ?_, fun i s => ?_⟩
  · match i, j with
    | 0, 0 => exact fun _ => rfl
    | 0, j + 1 => intro e; simp only at e; split at e <;> omega
    | i + 1, 0 => intro e; simp only at e; split at e <;> omega
    | i + 1, j + 1 => intro e; simp only at e; split at e <;> split at e <;> omega
  · match i with
    | 0 => intro e; simp only [List.getElem?_cons_zero, Option.some.injEq] at e; subst e; simp
    | i + 1 =>
      intro e
      simp only [List.getElem?_cons_succ] at e
      have := (List.getElem?_eq_some_iff.1 e).1
      simp only [if_pos this, List.getElem?_cons_succ]
      rw [List.getElem?_append_left this]; exact e
theorem Sub.rot (r : Res) (A : List Res) : Sub (A ++ [r]) (r :: A) := by
  refine ⟨fun i => if i < A.length then i + 1 else if i = A.length then 0 else i, fun i j => ?_, fun i s => ?_⟩
  · intro e; simp only at e; repeat' split at e
    all_goals omega
  · intro e
    by_cases h : i < A.length
    · rw [List.getElem?_append_left h] at e; simp only [if_pos h, List.getElem?_cons_succ]; exact e
    · rw [List.getElem?_append_right (by omega)] at e
      have h2 := (List.getElem?_eq_some_iff.1 e).1
      simp only [List.length_cons, List.length_nil] at h2
      have h3 : i = A.length := by omega
      subst h3
      simp only [Nat.lt_irrefl, if_false, if_true]
      simpa using e
theorem Sub.app {A B : List Res} {r : Res} (C : List Res) (h : Sub A (B ++ [r])) : Sub (A ++ C) (B ++ r :: C) := by
  obtain ⟨σ, h1, h2⟩ := h
  have h3 : ∀ i, i < A.length → σ i < B.length + 1 := fun i hi => by
    have := (List.getElem?_eq_some_iff.1 (h2 i A[i] (List.getElem?_eq_getElem hi))).1
    simpa using this
  refine ⟨fun i => if i < A.length then σ i else i - A.length + B.length + 1, fun i j => ?_, fun i s => ?_⟩
  · intro e
    simp only at e
    split at e <;> split at e
    · exact h1 i j e
    · have := h3 i (by assumption); omega
    · have := h3 j (by assumption); omega
    · omega
  · intro e
    by_cases h : i < A.length
    · rw [List.getElem?_append_left h] at e
      have := h2 i s e
      simp only [if_pos h]
      have h4 := h3 i h
      rw [show B ++ r :: C = (B ++ [r]) ++ C by simp, List.getElem?_append_left (by simpa using h4)]
      exact this
    · rw [List.getElem?_append_right (by omega)] at e
      simp only [if_neg h]
      rw [show B ++ r :: C = (B ++ [r]) ++ C by simp, List.getElem?_append_right (by simp only [List.length_append, List.length_cons, List.length_nil]; omega)]
      rw [show i - A.length + B.length + 1 - (B ++ [r]).length = i - A.length by simp only [List.length_append, List.length_cons, List.length_nil]; omega]
      exact e
theorem Tr.cl_row {w0 w : World} {L0 F : List Res} {b : Nat} {E : TypeId} {xs : List Value} {c k : Nat} (h : Tr w0 L0 w (cl b E xs :: F)) (hl : xs.length = c * k) : Tr w0 L0 w (row (some ⟨b, 0, none⟩) c k E xs :: F) := by
  have hok := h.ok _ List.mem_cons_self
  refine ⟨h.os, h.tape, h.output, fun hn => ⟨(h.ahead hn).1, fun r hr => by
    rcases List.mem_cons.1 hr with rfl | h2
    · rfl
    · exact (h.ahead hn).2 r (List.mem_cons_of_mem _ h2)⟩, h.size, h.frame, h.disj.tail.cons fun s hs b' ⟨p, hp, e⟩ hb => ?_, fun r hr => ?_, fun r hr b' hb => ?_⟩
  · simp only [Option.some.injEq] at hp
    subst hp
    have e' : b' = b := e
    rw [e'] at hb
    exact h.disj.head hs b rfl hb
  · rcases List.mem_cons.1 hr with rfl | h2
    · refine ⟨fun h => by simp at h, fun p hp => ?_⟩
      simp only [Option.some.injEq] at hp
      subst hp
      exact ⟨rfl, [], by rw [List.append_nil]; exact hok, by rw [List.append_nil]; exact hl⟩
    · exact h.ok r (List.mem_cons_of_mem _ h2)
  · rcases List.mem_cons.1 hr with rfl | h2
    · obtain ⟨p, hp, e⟩ := hb
      simp only [Option.some.injEq] at hp
      subst hp
      have e' : b' = b := e
      rw [e']
      exact h.new _ List.mem_cons_self b rfl
    · exact h.new r (List.mem_cons_of_mem _ h2) b' hb
theorem Tr.row_nil {w0 w : World} {L0 L : List Res} (k : Nat) (E : TypeId) (hT : Tr w0 L0 w L) : Tr w0 L0 w (row none 0 k E [] :: L) :=
  ⟨hT.os, hT.tape, hT.output, fun hn => ⟨(hT.ahead hn).1, fun r hr => by
    rcases List.mem_cons.1 hr with rfl | h2
    · rfl
    · exact (hT.ahead hn).2 r h2⟩, hT.size, hT.frame, hT.disj.cons (fun s _ b ⟨p, hp, _⟩ _ => by simp at hp), fun r hr => by
    rcases List.mem_cons.1 hr with rfl | h2
    · exact ⟨fun _ => ⟨rfl, rfl⟩, fun p hp => by simp at hp⟩
    · exact hT.ok r h2, fun r hr b hb => by
    rcases List.mem_cons.1 hr with rfl | h2
    · obtain ⟨p, hp, _⟩ := hb; simp at hp
    · exact hT.new r h2 b hb⟩
section
variable {P : Program} {U : Env} {w0 : World} {L0 L : List Res} {ty : TypeId}
theorem e_lookup_some {T K E : TypeId} {x y : Operand} {b : Nat} {k : Int} {l : List ME} {c : Nat} {z v : Value} (ht : P.underlying T = some (.map K E)) (hK : P.underlying K = some (.int .i64)) (hz : ∀ w, (zeroValue E).run P w = .ok z w)
    (hx : opv U x = some (.map (some b))) (hy : opv U y = some (.int .i64 k)) [hh : HasM L b l c] (hm : mfind k l = some v) : Ev P U w0 L0 L (.lookup T x y true) ty (Is (.tuple [v, .bool true].toArray)) No :=
  (e_lookup ht hK hz hx hy).cast (by rw [hm])
theorem e_lookup_none {T K E : TypeId} {x y : Operand} {b : Nat} {k : Int} {l : List ME} {c : Nat} {z : Value} (ht : P.underlying T = some (.map K E)) (hK : P.underlying K = some (.int .i64)) (hz : ∀ w, (zeroValue E).run P w = .ok z w)
    (hx : opv U x = some (.map (some b))) (hy : opv U y = some (.int .i64 k)) [hh : HasM L b l c] (hm : mfind k l = none) : Ev P U w0 L0 L (.lookup T x y true) ty (Is (.tuple [z, .bool false].toArray)) No :=
  (e_lookup ht hK hz hx hy).cast (by rw [hm])
theorem e_lookup1_some {T K E : TypeId} {x y : Operand} {b : Nat} {k : Int} {l : List ME} {c : Nat} {z v : Value} (ht : P.underlying T = some (.map K E)) (hK : P.underlying K = some (.int .i64)) (hz : ∀ w, (zeroValue E).run P w = .ok z w)
    (hx : opv U x = some (.map (some b))) (hy : opv U y = some (.int .i64 k)) [hh : HasM L b l c] (hm : mfind k l = some v) : Ev P U w0 L0 L (.lookup T x y false) ty (Is v) No :=
  (e_lookup1 ht hK hz hx hy).cast (by rw [hm]; rfl)
end
section
variable {P : Program} {ops : Array Oper} {Q : Exit → Act → World → Prop} {N : Nat} {U : Env} {w0 : World} {L0 L : List Res} {ty : TypeId} {rest : List Oper} {pos : String} {after : Array Edge}
theorem GC.fact {c : Code} {p : Prop} (hp : ∀ w, Tr w0 L0 w L → p) (h : p → GC P c Q N U w0 L0 L) : GC P c Q N U w0 L0 L := fun a w hE hT => h (hp w hT) a w hE hT
theorem GL.fact {ol : List Oper} {p : Prop} (hp : ∀ w, Tr w0 L0 w L → p) (h : p → GL P ops Q ol N U w0 L0 L) : GL P ops Q ol N U w0 L0 L := fun a w hE hT => h (hp w hT) a w hE hT
theorem e_indexAddrB {T E : TypeId} {x y : Operand} {k n c : Nat} {a : Option Addr} {kd : IntKind} {i : Int} (hf : slOf P T = some (E, k)) (hx : opv U x = some (.slice a n c)) (hy : opv U y = some (.int kd i)) (hb : 0 < n → a = some ⟨bk a, of_ a, none⟩) (h0 : 0 ≤ i) (h1 : i < n) :
    Ev P U w0 L0 L (.indexAddr T x y) ty (Is (.pointer (some ⟨bk a, of_ a + i.toNat * k, none⟩))) No := by
  have ha := hb (by omega)
  rw [ha] at hx
  exact e_indexAddr hf hx hy h0 h1
end
end Go.K
